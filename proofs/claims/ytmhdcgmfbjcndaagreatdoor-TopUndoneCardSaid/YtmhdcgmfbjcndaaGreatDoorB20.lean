import Derived.Test.YtmhdcgmfbjcndaaGreatDoorB15
import Derived.Laws.CopyOwn
import Derived.Lib.BufferWrite
import Derived.Lib.LazyBuf
set_option linter.unusedVariables false
set_option linter.unusedSimpArgs false
set_option maxRecDepth 100000
set_option maxHeartbeats 8000000
namespace Go.Proofs.YtmhdcgmfbjcndaaGreatDoor.P
open Go.RowKit Go.Proofs.aa.ag Go.Proofs.aa.ao Go.Proofs.aa.ay
theorem lT(w:World)(o:Obj)(n:Nat):(w.alloc o).drewN n=(w.drewN n).alloc o:=rfl
theorem qo:dY.f 5 64=some 13:=by decide+kernel
theorem mP.calls(n v:Int)(g:Nat)(w:World)(hc:w.cell? ⟨g,0,none⟩=some (.int .i64 v))(hf:w.frozen? ⟨g,0,none⟩=false)(h0:0≤v+n)(h1:v+n≤10000000):
 Calls Tryz.prog 97 #[.int .i64 n,.pointer (some ⟨g,0,none⟩)] w fun e w'=>e= .returned (.int .i64 v)∧w'=w.setCell ⟨g,0,none⟩ (.int .i64 (v+n)):=by
 go_enter Tryz.func97,Tryz.ntmps97;go_wp2;go_ret;exact⟨rfl,rfl⟩
def lU.f(az ax aA aC:Int):Option (Int×Int×Int×Int×Int×Int×Int×Int×Int):=
 if 0≤az∧az≤1000000∧0≤ax∧ax≤1000000∧0≤aA∧aA≤1000000∧0≤aC∧aC≤1000000 then
  some (1,2,aC,2+aC*2,2+aC*2+1,2+aC*2+1+ax/2,2+aC*2+1+ax/2+aA/2,2+aC*2+1+ax/2+aA/2+26,2+aC*2+1+ax/2+aA/2+26+az*4) else none
theorem lU.calls(az ax aA aC r1 r2 r3 r4 r5 r6 r7 r8 r9:Int)(w:World)(h:lU.f az ax aA aC=some (r1,r2,r3,r4,r5,r6,r7,r8,r9)):
 Calls Tryz.prog 58 #[.agg #[.int .i64 az,.int .i64 ax,.int .i64 aA,.int .i64 aC]] w fun e w'=>e= .returned (.agg #[.int .i64 r1,.int .i64 r2,.int .i64 r3,.int .i64 r4,.int .i64 r5,.int .i64 r6,.int .i64 r7,.int .i64 r8,.int .i64 r9])∧Below w.heap.size w w':=by
 unfold lU.f at h;split at h
 ·rename_i hb
  obtain⟨b0,b1,b2,b3,b4,b5,b6,b7⟩:=hb;simp only[Option.some.injEq,Prod.mk.injEq] at h;obtain⟨rfl,rfl,rfl,rfl,rfl,rfl,rfl,rfl,rfl⟩:=h;have ON:∀(fn:Fn)(first cap:Array Value)(w:World),(Instr.makeFunc fn first cap).run Tryz.prog w= .ok (.func fn first cap) w:=fun _ _ _ _=>rfl;go_enter Tryz.func58,Tryz.ntmps58
  go_wp2_with fail
  refine(mP.calls _ 2 _ _ (by go_simp) (by go_simp) (by omega) (by omega)).mono ?_;rintro e w2 ⟨rfl,rfl⟩
  go_wp2_with(go_at_call 98;refine(dY.calls 5 64 13 _ qo).mono ?_;rintro e w2 ⟨rfl,⟨nd,rfl⟩⟩;simp only[lT];obtain⟨W,hW⟩:∃W,W=w.drewN nd:=⟨_,rfl⟩;have hs:w.heap.size=W.heap.size:=(by rw[hW];rfl);have HW:=ak hW;rw[←hW,hs];clear hW hs)
  refine(mP.calls _ (2+aC*2) _ _ (by go_simp) (by go_simp) (by omega) (by omega)).mono ?_;rintro e w2 ⟨rfl,rfl⟩
  go_wp2_with(go_at_call 98;refine(dY.calls 5 64 13 _ qo).mono ?_;rintro e w2 ⟨rfl,⟨nd,rfl⟩⟩;simp only[lT];obtain⟨W,hW⟩:∃W,W=w.drewN nd:=⟨_,rfl⟩;have hs:w.heap.size=W.heap.size:=(by rw[hW];rfl);have HW:=ak hW;rw[←hW,hs];clear hW hs)
  refine(mP.calls _ (2+aC*2+1) _ _ (by go_simp) (by go_simp) (by omega) (by omega)).mono ?_;rintro e w2 ⟨rfl,rfl⟩
  go_wp2_with(go_at_call 98;refine(dY.calls 5 64 13 _ qo).mono ?_;rintro e w2 ⟨rfl,⟨nd,rfl⟩⟩;simp only[lT];obtain⟨W,hW⟩:∃W,W=w.drewN nd:=⟨_,rfl⟩;have hs:w.heap.size=W.heap.size:=(by rw[hW];rfl);have HW:=ak hW;rw[←hW,hs];clear hW hs)
  refine(mP.calls _ (2+aC*2+1+ax/2) _ _ (by go_simp) (by go_simp) (by omega) (by omega)).mono ?_;rintro e w2 ⟨rfl,rfl⟩
  go_wp2_with(go_at_call 98;refine(dY.calls 5 64 13 _ qo).mono ?_;rintro e w2 ⟨rfl,⟨nd,rfl⟩⟩;simp only[lT];obtain⟨W,hW⟩:∃W,W=w.drewN nd:=⟨_,rfl⟩;have hs:w.heap.size=W.heap.size:=(by rw[hW];rfl);have HW:=ak hW;rw[←hW,hs];clear hW hs)
  refine(mP.calls _ (2+aC*2+1+ax/2+aA/2) _ _ (by go_simp) (by go_simp) (by omega) (by omega)).mono ?_;rintro e w2 ⟨rfl,rfl⟩
  go_wp2_with(go_at_call 98;refine(dY.calls 5 64 13 _ qo).mono ?_;rintro e w2 ⟨rfl,⟨nd,rfl⟩⟩;simp only[lT];obtain⟨W,hW⟩:∃W,W=w.drewN nd:=⟨_,rfl⟩;have hs:w.heap.size=W.heap.size:=(by rw[hW];rfl);have HW:=ak hW;rw[←hW,hs];clear hW hs)
  refine(mP.calls _ (2+aC*2+1+ax/2+aA/2+26) _ _ (by go_simp) (by go_simp) (by omega) (by omega)).mono ?_;rintro e w2 ⟨rfl,rfl⟩
  go_wp2_with(go_at_call 98;refine(dY.calls 5 64 13 _ qo).mono ?_;rintro e w2 ⟨rfl,⟨nd,rfl⟩⟩;simp only[lT];obtain⟨W,hW⟩:∃W,W=w.drewN nd:=⟨_,rfl⟩;have hs:w.heap.size=W.heap.size:=(by rw[hW];rfl);have HW:=ak hW;rw[←hW,hs];clear hW hs)
  refine bodyPost_ret (v:= .agg #[.int .i64 1,.int .i64 2,.int .i64 aC,.int .i64 (2+aC*2),.int .i64 (2+aC*2+1),.int .i64 (2+aC*2+1+ax/2),.int .i64 (2+aC*2+1+ax/2+aA/2),.int .i64 (2+aC*2+1+ax/2+aA/2+26),.int .i64 (2+aC*2+1+ax/2+aA/2+26+az*4)]) (by simp [results,Tryz.results58,go_sem]) rfl ⟨rfl,?_⟩;rw[HW.1]
  repeat (first|exact Below.refl _ _|apply ab|apply cZ)
 ·cases h
theorem sG{P:Program}{w:World}{ops:Array Oper}{rest:List Oper}{o:Oper}{a:Act}{Q:Exit→Act→World→Prop}(um:o.guard=none)(d s:Operand)(dT sT:TypeId)
 (ho:o.op= .call {callee:= .builtin .copy,args:= #[d,s],argTypes:= #[dT,sT]}) (elem:TypeId) (hu:P.underlying dT=some (.slice elem)) (oL:(P.info? elem).map (·.size)=some 1)
 (g Fj Ok:Nat) (t:ByteArray) (hd:a.eval d= .slice (some ⟨g,0,none⟩) Fj Ok) (hs:a.eval s= .string t) (cur:Array Value) (ty:TypeId) (hg:w.heap[g]? =some (.cells cur ty (0,0))) (hle:t.size≤Fj) (Ds:t.size≤cur.size)
 (h:wpList P ops Q rest (a.put o.dst (goInt t.size)) (w.setRow g (Lib.byteCells t.data.toList++cur.toList.drop t.size).toArray)):wpList P ops Q (o::rest) a w:=by
 refine wpList_plain um fun K hK=>?_;have iI:=Lib.run_copy_row_string (P:=P) w dT sT o.type elem g 0 Fj Ok t cur ty hu oL hg hle (by omega);rw[List.take_zero,List.nil_append,Nat.zero_add] at iI;unfold Oper.wp;simp [execOp,ho,resolve,invoke,builtin,hd,hs,iI,Result.andThen];exact hK _ _ h
def numsOf(s:ByteArray):List Int:=s.data.toList.map fun b=>(b.toNat:Int)
def Iw(s:ByteArray):List Int:=numsOf s++List.replicate (16-s.size) 0
def kK.f(a0:ByteArray):Option (List Int×Int):=some (if a0.size=0∨jv a0=true then(Iw a0,0) else([],3))
theorem KH{s:ByteArray}(h:jv s=true):s.size≠0∧s.size≤16:=by
 unfold jv at h;simp only[Bool.and_eq_true,decide_eq_true_eq] at h;exact h.2
theorem numsOf_length(s:ByteArray):(numsOf s).length=s.size:=by
 unfold numsOf;rw[List.length_map,←Lib.size_eq]
theorem Ix(s:ByteArray):Lib.byteCells s.data.toList=kB (Value.int .u8) (numsOf s):=by
 unfold Lib.byteCells numsOf kB;rw[List.map_map];rfl
theorem wU{s:ByteArray}(h:s.size=0):s.toList=[]:=by
 rw[ByteArray.toList_eq];exact List.eq_nil_of_length_eq_zero (by rw[Array.length_toList];exact h)
theorem yN{s:ByteArray}(h:s.size≠0):s.toList≠[]:=by
 intro he;rw[ByteArray.toList_eq] at he;have h2:=congrArg List.length he;rw[Array.length_toList] at h2;exact h h2
theorem MJ{W:World}{base g cap:Nat}{cur:Array Value}{s:ByteArray}{ok:Nat→Prop}(hb:base≤g)(hg:W.heap[g]? =some (.cells (Lib.byteCells s.data.toList++cur.toList.drop s.size).toArray 5 (0,0)))(hs:s.size≤16)(hc:16≤cap)(hm:cap≤maxLen)(hcs:cur.size=cap)
 (ui:cur.toList.take 16=kB (Value.int .u8) (List.replicate 16 0)) (jo:∀k,ok k):Kd.R (Kd.int .u8) 5 W base ok (.slice (some ⟨g,0,none⟩) 16 cap) (Iw s):=by
 have hlen:(Iw s).length=16:=by unfold Iw;rw[List.length_append,numsOf_length,List.length_replicate];omega
 refine Kd.Ae ?_ (fun k _=>jo k);refine⟨by rw[eY,hlen],.inr ⟨g,cap,_,by rw[hlen],hb,hg,by omega,hm,?_,?_⟩⟩
 ·simp [Lib.byteCells_length,←Lib.size_eq];omega
 ·rw[hlen];have h1:(Lib.byteCells s.data.toList).length=s.size:=by rw[Lib.byteCells_length,←Lib.size_eq]
  simp only[Nat.mul_one];rw[List.take_append,h1,List.take_of_length_le (by omega)];unfold Iw;rw[yp,←Ix]
  congr 1
  rw[←List.drop_take,ui];unfold kB;rw[List.map_replicate,List.map_replicate,List.drop_replicate]
theorem X5:(Tryz.prog.info? 5).map (·.size)=some 1:=by kernel_rfl
theorem kK.calls(a0:ByteArray)(r1:List Int)(r2:Int)(w:World)(h:kK.f a0=some (r1,r2)):
 Calls Tryz.prog 104 #[.string a0] w fun e w'=>∃kT:Value,e= .returned (.tuple #[kT,.int .i64 r2])∧Kd.R (Kd.int .u8) 5 w' w.heap.size (fun _=>True) kT r1∧Below w.heap.size w w':=by
 unfold kK.f at h;have H:=Option.some.inj h;clear h
 by_cases hz:a0.size=0
 ·rw[if_pos (Or.inl hz)] at H;obtain⟨rfl,rfl⟩:=Prod.mk.inj H;clear H;have e1:=wU hz;have e2:(a0.toList==([]:List UInt8))=true:=beq_iff_eq.mpr e1;have e3:(a0.toList !=([]:List UInt8))=false:=bne_eq_false_iff_eq.mpr e1;have e4:a0.toList.isEmpty=true:=by rw[e1];rfl
  have HZ:=ak hz;clear hz;go_enter Tryz.func104,Tryz.ntmps104
  go_wp2_with(first|((with_reducible refine gd 12 ?_);refine Kd.Ak (Kd.int .u8) w.heap.size 5 rfl (N:=12) rfl 33 _ _ rfl 16 rfl rfl Tryz.underlying33 (.int .u8 0) 1 kG rfl (by decide) (by omega) 0 (ok:=fun _=>True) (kc:=fun _=>True) rfl (fun _ hk=>hk) trivial (by omega) (by omega) (Below.refl _ _) (Nat.le_refl _) ?_;intro v131 w7 CJ hb qh gY;clear qh gY;rcases(Kd.Af CJ).2 with⟨_,rS⟩|⟨g7,wV,Fk,rfl,pB,X9,lY,X',Tc,ht7⟩;exact absurd rS (by decide);have A7:=ak pB;have B7:=ak X9;have C7:=ak (show 16≤wV by rw[List.length_replicate] at lY;exact lY);have D7:=ak X';have E7:=ak Tc;have F7:=ak ht7;have G7:=ak hb;clear CJ hb pB X9 lY X' Tc ht7)|((with_reducible refine dm (b:= .copy) (xs:= #[.tmp 13,.tmp 14]) rfl ?_);refine sG rfl (.tmp 13) (.tmp 14) 33 9 rfl 5 Tryz.underlying33 X5 g7 16 wV a0 rfl rfl Fk 5 B7.1 (ow HZ) (by have:=HZ.1;have:=E7.1;have:=C7.1;omega) ?_))
  go_ret2;exact⟨_,rfl,MJ A7.1 (setRow_heap _ _ _ _ _ _ B7.1) (ow HZ) C7.1 D7.1 (ow E7) (by have:=F7.1;rwa [List.length_replicate,Nat.mul_one] at this) (fun _=>trivial),below_setRow G7.1 A7.1 _⟩
 ·have e1:=yN hz;have e2:(a0.toList==([]:List UInt8))=false:=beq_eq_false_iff_ne.mpr e1;have e3:(a0.toList !=([]:List UInt8))=true:=bne_iff_ne.mpr e1
  have e4:a0.toList.isEmpty=false:=by
   cases hc:a0.toList with
   |nil=>exact absurd hc e1
   |cons _ _=>rfl
  clear e1;cases hn:jv a0 with
  |true=>
   rw[if_pos (Or.inr hn)] at H;obtain⟨rfl,rfl⟩:=Prod.mk.inj H;clear H;have HZ:=ak (KH hn);have HN:=ak (show du.f a0=some true by unfold du.f;rw[hn]);clear hz hn;go_enter Tryz.func104,Tryz.ntmps104
   go_wp2_with(first|(go_at_call 79;refine(du.calls a0 true _ HN.1).mono ?_;rintro e w' ⟨rfl,im⟩;have kC:=ak im;clear im)|((with_reducible refine gd 12 ?_);refine Kd.Ak (Kd.int .u8) w.heap.size 5 rfl (N:=12) rfl 33 _ _ rfl 16 rfl rfl Tryz.underlying33 (.int .u8 0) 1 kG rfl (by decide) (by omega) 0 (ok:=fun _=>True) (kc:=fun _=>True) rfl (fun _ hk=>hk) trivial (by omega) (by omega) kC.1 (aq kC.1) ?_;intro v131 w7 CJ hb qh gY;clear qh gY;rcases(Kd.Af CJ).2 with⟨_,rS⟩|⟨g7,wV,Fk,rfl,pB,X9,lY,X',Tc,ht7⟩;exact absurd rS (by decide);have A7:=ak pB;have B7:=ak X9;have C7:=ak (show 16≤wV by rw[List.length_replicate] at lY;exact lY);have D7:=ak X';have E7:=ak Tc;have F7:=ak ht7;have G7:=ak hb;clear CJ hb pB X9 lY X' Tc ht7)|((with_reducible refine dm (b:= .copy) (xs:= #[.tmp 13,.tmp 14]) rfl ?_);refine sG rfl (.tmp 13) (.tmp 14) 33 9 rfl 5 Tryz.underlying33 X5 g7 16 wV a0 rfl rfl Fk 5 B7.1 (ow HZ) (by have:=HZ.1;have:=E7.1;have:=C7.1;omega) ?_))
   go_ret2;exact⟨_,rfl,MJ A7.1 (setRow_heap _ _ _ _ _ _ B7.1) (ow HZ) C7.1 D7.1 (ow E7) (by have:=F7.1;rwa [List.length_replicate,Nat.mul_one] at this) (fun _=>trivial),below_setRow G7.1 A7.1 _⟩
  |false=>
   rw[if_neg (by rw[hn];simp [hz])] at H;obtain⟨rfl,rfl⟩:=Prod.mk.inj H;clear H;have HN:=ak (show du.f a0=some false by unfold du.f;rw[hn]);clear hz hn;go_enter Tryz.func104,Tryz.ntmps104
   go_wp2_with(go_at_call 79;refine(du.calls a0 false _ HN.1).mono ?_;rintro e w' ⟨rfl,im⟩;have kC:=ak im;clear im)
   go_ret2;exact⟨_,rfl,Kd.lN _ _ _ _ _,kC.1⟩
def lE(l:List Int):List Int:=(l.reverse.dropWhile (·==0)).reverse
theorem Om(l:List Int)(x:Int):lE (l++[x])=if x=0 then lE l else l++[x]:=by
 unfold lE;rw[List.reverse_append,List.reverse_singleton,List.singleton_append,List.dropWhile_cons]
 by_cases h:x=0
 ·rw[if_pos (beq_iff_eq.2 h),if_pos h]
 ·rw[if_neg (by simpa using h),if_neg h,List.reverse_cons,List.reverse_reverse]
theorem RI{n:Int}(h0: -9223372036854775808≤n)(h1:n≤9223372036854775807):wrap64 n=n:=by unfold wrap64;omega
theorem On:∀(n:Nat)(l:List Int)(k:Nat),l.length=n→n<k→n≤9223372036854775807→cM.l0 k l 0=some (lE l):=by
 intro n
 induction n with
 |zero=>
  intro l k hl hk _;obtain⟨k,rfl⟩:∃m,k=m+1:=⟨k-1,by omega⟩;obtain rfl:=List.eq_nil_of_length_eq_zero hl;simp only[cM.l0];rw[if_neg (by simp)];rfl
 |succ n ih=>
  intro l k hl hk hm;obtain⟨k,rfl⟩:∃m,k=m+1:=⟨k-1,by omega⟩;obtain⟨l,x,rfl⟩:∃l' x,l=l'++[x]:=⟨l.dropLast,l.getLast (by intro h;rw[h] at hl;cases hl),(List.dropLast_concat_getLast _).symm⟩;rw[List.length_append,List.length_singleton] at hl
  have hw:wrap64 (((l++[x]).length:Int)-1)=(l.length:Int):=by
   rw[List.length_append,List.length_singleton,RI (n:=(((l.length+1:Nat):Int))-1) (by omega) (by omega)];omega
  simp only[cM.l0];rw[hw,if_pos (by rw[List.length_append,List.length_singleton];omega),if_pos (by omega),if_pos (by rw[List.length_append,List.length_singleton];omega),Om]
  have SR:rd (l++[x]) (l.length:Int)=x:=by
   unfold rd;simp
  rw[SR]
  by_cases h0:x=0
  ·rw[if_pos h0,if_pos h0,if_pos (by rw[List.length_append,List.length_singleton];omega),Int.toNat_natCast,List.take_left']
   ·exact ih l k (by omega) (by omega) (by omega)
   ·rfl
  ·rw[if_neg h0,if_neg h0]
theorem VA(l:List Int)(h:l.length≤9223372036854775807):cM.f (l.length+1) l 0=some (lE l):=On l.length l _ rfl (by omega) h
theorem yd.calls(A0:Option Addr)(c0:Nat)(l0:List Int)(w:World)(fS:Kd.C (Kd.int .u8) w A0 l0.length l0)(jr:l0.length≤c0):
 Calls Tryz.prog 164 #[.slice A0 l0.length c0,.string ⟨#[0]⟩] w fun e w'=>∃A c,e= .returned (.slice A (lE l0).length c)∧Kd.C (Kd.int .u8) w' A (lE l0).length (lE l0)∧Below w.heap.size w w':=by
 have hV:Kd.V (Kd.int .u8) 5 w w.heap.size (fun k=>k<w.heap.size) (.slice A0 l0.length c0) l0:=Kd.za jr (Kd.C_F (Kd.Gf .u8) fS);have agm:=Kd.adb fS;have HV:=ak hV;have HR:=ak fS;have HM:=ak agm;clear hV fS agm
 by_cases hz:l0.length=0
 ·obtain rfl:=List.eq_nil_of_length_eq_zero hz;clear hz;go_enter Tryz.func164,Tryz.ntmps164;go_wp2;go_ret;exact⟨_,_,rfl,HR.1,Below.refl _ _⟩
 ·have vn:((l0.length:Int)==0)=false:=beq_eq_false_iff_ne.2 (by omega);have hz3:(l0.length==0)=false:=beq_eq_false_iff_ne.2 hz;go_enter Tryz.func164,Tryz.ntmps164
  go_wp2_with(go_at_call 181;refine(cM.calls (l0.length+1) _ A0 c0 l0 0 _ _ HV.1 (VA l0 HM.1)).mono ?_;rintro e w' ⟨v1,rfl,hv1,im⟩;obtain⟨A1,c1,rfl⟩:=Kd.me hv1;have HC1:=ak (Kd.eT hv1).2.2;have kC:=ak im;clear hv1 im)
  go_ret;exact⟨_,_,rfl,HC1.1,kC.1⟩
def MK(l:List Int):ByteArray×Bool:=if l.length=16∧((lE l).length=0∨jv (strOfNums (lE l))=true) then(strOfNums (lE l),true) else(⟨#[]⟩,false)
def pE.f(l0:List Int):Option (ByteArray×Bool):=some (MK l0)
theorem pE.calls(A0:Option Addr)(c0:Nat)(l0:List Int)(r1:ByteArray)(r2:Bool)(w:World)(fS:Kd.C (Kd.int .u8) w A0 l0.length l0)(jr:l0.length≤c0)(h:pE.f l0=some (r1,r2)):
 Calls Tryz.prog 123 #[.slice A0 l0.length c0] w fun e w'=>e= .returned (.tuple #[.string r1,.bool r2])∧Below w.heap.size w w':=by
 unfold pE.f at h;have H:=Option.some.inj h;clear h;unfold MK at H;have hT:=yd.calls A0 c0 l0 w fS jr;generalize lE l0=t at H hT;have HT:=ak hT;have HR:=ak fS;clear hT fS;have oL:=strOfNums_size t
 by_cases SX:l0.length=16
 ·have h1:((l0.length:Int)==16)=true:=beq_iff_eq.2 (by omega);have h2:((l0.length:Int) !=16)=false:=bne_eq_false_iff_eq.2 (by omega)
  by_cases hz:t.length=0
  ·rw[if_pos ⟨SX,Or.inl hz⟩] at H;obtain⟨rfl,rfl⟩:=Prod.mk.inj H;clear H;have e1:=wU (s:=strOfNums t) (by omega);have e2:((strOfNums t).toList==([]:List UInt8))=true:=beq_iff_eq.mpr e1;have e3:((strOfNums t).toList !=([]:List UInt8))=false:=bne_eq_false_iff_eq.mpr e1;have e4:(strOfNums t).toList.isEmpty=true:=by rw[e1];rfl
   clear oL hz SX;go_enter Tryz.func123,Tryz.ntmps123
   go_wp2_with(go_at_call 164;refine HT.1.mono ?_;rintro e w' ⟨A1,c1,rfl,MG,im⟩;have hcv:=Kd.qN (P:=Tryz.prog) (A:=A1) (c:=c1) Tryz.underlying33 Tryz.underlying5 Tryz.underlying9 MG;have kC:=ak im;clear MG im)
   go_ret2;exact⟨rfl,kC.1⟩
  ·have e1:=yN (s:=strOfNums t) (by omega);have e2:((strOfNums t).toList==([]:List UInt8))=false:=beq_eq_false_iff_ne.mpr e1;have e3:((strOfNums t).toList !=([]:List UInt8))=true:=bne_iff_ne.mpr e1
   have e4:(strOfNums t).toList.isEmpty=false:=by
    cases hc:(strOfNums t).toList with
    |nil=>exact absurd hc e1
    |cons _ _=>rfl
   clear e1 oL;cases hn:jv (strOfNums t) with
   |true=>
    rw[if_pos ⟨SX,Or.inr hn⟩] at H;obtain⟨rfl,rfl⟩:=Prod.mk.inj H;have HN:=ak (show du.f (strOfNums t)=some true by unfold du.f;rw[hn]);clear H hn hz SX;go_enter Tryz.func123,Tryz.ntmps123
    go_wp2_with(first|(go_at_call 164;refine HT.1.mono ?_;rintro e w' ⟨A1,c1,rfl,MG,im⟩;have hcv:=Kd.qN (P:=Tryz.prog) (A:=A1) (c:=c1) Tryz.underlying33 Tryz.underlying5 Tryz.underlying9 MG;have kC:=ak im;clear MG im)|(go_at_call 79;refine(du.calls _ true _ HN.1).mono ?_;rintro e w' ⟨rfl,im⟩;have nS:=ak im;clear im))
    go_ret2;exact⟨rfl,bR kC.1 nS.1⟩
   |false=>
    rw[if_neg (by rw[hn];simp [hz])] at H;obtain⟨rfl,rfl⟩:=Prod.mk.inj H;have HN:=ak (show du.f (strOfNums t)=some false by unfold du.f;rw[hn]);clear H hn hz SX;go_enter Tryz.func123,Tryz.ntmps123
    go_wp2_with(first|(go_at_call 164;refine HT.1.mono ?_;rintro e w' ⟨A1,c1,rfl,MG,im⟩;have hcv:=Kd.qN (P:=Tryz.prog) (A:=A1) (c:=c1) Tryz.underlying33 Tryz.underlying5 Tryz.underlying9 MG;have kC:=ak im;clear MG im)|(go_at_call 79;refine(du.calls _ false _ HN.1).mono ?_;rintro e w' ⟨rfl,im⟩;have nS:=ak im;clear im))
    go_ret2;exact⟨rfl,bR kC.1 nS.1⟩
 ·rw[if_neg (fun hh=>SX hh.1)] at H;obtain⟨rfl,rfl⟩:=Prod.mk.inj H;have h1:((l0.length:Int)==16)=false:=beq_eq_false_iff_ne.2 (by omega);have h2:((l0.length:Int) !=16)=true:=bne_iff_ne.2 (by omega);have h3:(l0.length==16)=false:=beq_eq_false_iff_ne.2 SX;clear H oL;go_enter Tryz.func123,Tryz.ntmps123
  go_wp2_with(go_at_call 164;refine HT.1.mono ?_;rintro e w' ⟨A1,c1,rfl,MG,im⟩;have hcv:=Kd.qN (P:=Tryz.prog) (A:=A1) (c:=c1) Tryz.underlying33 Tryz.underlying5 Tryz.underlying9 MG;have kC:=ak im;clear MG im)
  go_ret2;exact⟨rfl,kC.1⟩
theorem tI.calls(g o c k n:Nat)(w:World)(hn:n≤1000)(hc:n≤c)(hk:8*k+8≤n):
 Calls Tryz.prog 112 #[.slice (some ⟨g,o,none⟩) n c,.int .i64 k] w fun e w'=>e= .returned (.slice (some ⟨g,o+8*k,none⟩) 8 (c-8*k))∧w'=w:=by
 have d1:decide ((k:Int)<0)=false:=decide_eq_false (by omega);have d2:decide ((k:Int)≥(n:Int)/8)=false:=decide_eq_false (by omega);have d3:decide ((n:Int)/8≤(k:Int))=false:=decide_eq_false (by omega);go_enter Tryz.func112,Tryz.ntmps112;go_wp2;go_ret
 exact⟨by
  show Ending.returned (.slice (some ⟨g,o+k*8,none⟩) (k*8+8-k*8) (c-k*8))=_;rw[Nat.mul_comm k 8,show 8*k+8-8*k=8 by omega],rfl⟩
theorem Fl.calls(ad:Addr)(c:Nat)(w:World)(hc:16≤c):
 Calls Tryz.prog 112 #[.slice (some ad) 16 c,.int .i64 0] w fun e w'=>e= .returned (.slice (some ad) 8 c)∧w'=w:=by
 go_enter Tryz.func112,Tryz.ntmps112;go_wp2;go_ret;exact⟨rfl,rfl⟩
theorem BD{w w':World}(h:bN w w'):Below w.heap.size w w':=by
 obtain⟨nd,rfl⟩:=h;exact cZ (Below.refl _ _) nd
def rH.f(k:Nat)(l0:List Int)(a1:Int):Option (Int×Bool):=if a1=0∧l0.length=16 then fL.f k (l0.take 8) else none
theorem rH.calls(k:Nat)(A0:Option Addr)(c0:Nat)(l0:List Int)(a1 r1:Int)(r2:Bool)(w:World)(fS:Kd.C (Kd.int .u8) w A0 l0.length l0)(jr:l0.length≤c0)(h:rH.f k l0 a1=some (r1,r2)):
 Calls Tryz.prog 124 #[.slice A0 l0.length c0,.int .i64 a1] w fun e w'=>e= .returned (.tuple #[.int .i64 r1,.bool r2])∧Below w.heap.size w w':=by
 unfold rH.f at h
 by_cases hh:a1=0∧l0.length=16
 ·rw[if_pos hh] at h;obtain⟨rfl,SX⟩:=hh;have hC:=Kd.xu (k:=Kd.int .u8) (m:=8) fS (by omega);obtain⟨ad,rfl,_⟩:=fS.2.2 (by omega);have hl:(l0.take 8).length=8:=by rw[List.length_take];omega
  have HH:=ak h;have HC:=ak hC;have HL:=ak hl;rw[SX] at jr⊢;have vA:=fun w=>run_eql_slice_nil (P:=Tryz.prog) w 33 5 (some ad) 8 c0 Tryz.underlying33;clear h hC fS hl;go_enter Tryz.func124,Tryz.ntmps124
  go_wp2_with(first|(go_at_call 112;refine(Fl.calls ad c0 _ jr).mono ?_;rintro e w1 ⟨rfl,rfl⟩)|(go_at_call 163;go_loud (refine(Cd (args':= #[.slice (some ad) (l0.take 8).length c0]) ?ha (fL.calls k (some ad) c0 (l0.take 8) r1 r2 _ HC.1 (by rw[HL.1];omega) HH.1)).mono ?_;(case ha=>rw[HL.1]);rintro e w1 ⟨rfl,hd⟩;have HD:=ak hd;clear hd)))
  go_ret2;exact⟨rfl,BD HD.1⟩
 ·rw[if_neg hh] at h;cases h
def KK(n:Int)(j:Nat):Int:=(n/2^(8*j))%256
def w8(n:Int):List Int:=(List.range 8).map (KK n)
theorem ka(n:Int):(w8 n).length=8:=by simp [w8]
def wrote(cur:List Value)(o:Nat)(n:Int):Nat→List Value
 |0=>cur
 |i+1=>(wrote cur o n i).set (o+i) (.int .u8 (KK n i))
theorem Fm(cur:List Value)(o:Nat)(n:Int):∀i,(wrote cur o n i).length=cur.length:=by
 intro i
 induction i with
 |zero=>rfl
 |succ i ih=>rw[wrote,List.length_set,ih]
theorem sx.calls(g o c:Nat)(n:Int)(cur:List Value)(base:Nat)(w0 w:World)(hg:w.heap[g]? =some (.cells cur.toArray 5 (0,0)))(ho:o+8≤cur.length)(hb:Below base w0 w)(F9:base≤g)(h0:0≤n)(hn:n≤4611686018427387903):
 Calls Tryz.prog 111 #[.slice (some ⟨g,o,none⟩) 8 c,.int .i64 n] w fun e w'=>e= .returned (.tuple #[])∧w'.heap[g]? =some (.cells (wrote cur o n 8).toArray 5 (0,0))∧(∀b,b≠g→w'.heap[b]? =w.heap[b]?)∧Below base w0 w':=by
 have HG:=ak hg;have HB:=ak hb;clear hg hb;go_enter Tryz.func111,Tryz.ntmps111;go_wp2
 go_loopw [5] (fun v5 w'=>∃i:Nat,v5= .int .i64 i∧i≤8∧ae (w'.heap[g]? =some (.cells (wrote cur o n i).toArray 5 (0,0)))∧ae (∀b,b≠g→w'.heap[b]? =w.heap[b]?)∧ae (Below base w0 w')) (fun v5 w'=>match v5 with| .int _ m=>8-m.toNat|_=>0)
 case atStart=>exact⟨0,rfl,by omega,HG,⟨fun _ _=>rfl⟩,HB⟩
 case round=>
  obtain⟨i,rfl,hi,Lt,CI,kC⟩:=hrel
  by_cases h8:i<8
  ·have d1:decide ((i:Int)<8)=true:=decide_eq_true (by omega);have hlen:=Fm cur o n i;have iJ:=ah Lt.1 (o+i);obtain⟨x7,hx7⟩:∃x,(wrote cur o n i)[o+i]? =some x:=⟨_,List.getElem?_eq_getElem (by omega)⟩;rw[List.getElem?_toArray,hx7] at iJ;have Ja:=bn Lt.1 (o+i);clear hx7 hlen;go_wp2
   go_roundw
   case rel=>
    refine⟨i+1,congrArg _ (by omega),h8,⟨?_⟩,⟨?_⟩,⟨kC.1.setCell F9 _⟩⟩
    ·have:=kf Lt.1 (o+i) (.int .u8 (KK n i));rw[List.setIfInBounds_toArray] at this;exact this
    ·intro b hb;exact(Below.heap_setCell _ _ _ _ hb).trans (CI.1 b hb)
   case measure=>
    show 8-((i:Int)+1).toNat<8-(i:Int).toNat;omega
  ·obtain rfl:i=8:=by omega
   go_wp2
   go_end0
   exact⟨rfl,Lt.1,CI.1,kC.1⟩
def pF.f(l:List Int):Option (List Int×Int):=
 match l with
 |[a,b]=>if 0≤a∧a≤4611686018427387903∧0≤b∧b≤4611686018427387903 then some (w8 a++w8 b,0) else none
 |_=>none
theorem KM{n:Int}(h0:0≤n)(h1:n≤4611686018427387903):lX.f n=some true:=by
 unfold lX.f;rw[if_pos h0,decide_eq_true h1]
theorem BE(n:Int)(a b c:List Value)(hb:b.length=8):wrote (a++(b++c)) a.length n 8=a++(kB (Value.int .u8) (w8 n)++c):=by
 match b,hb with
 |[b0,b1,b2,b3,b4,b5,b6,b7],_=>
  simp only[wrote];simp [List.set_append_right,kB,w8,List.range_succ]
theorem pF.calls(A0:Option Addr)(c0:Nat)(l0 r1:List Int)(r2:Int)(w:World)(fS:Kd.C (Kd.int .i64) w A0 l0.length l0)(jr:l0.length≤c0)(h:pF.f l0=some (r1,r2)):
 Calls Tryz.prog 66 #[.slice A0 l0.length c0] w fun e w'=>∃kT:Value,e= .returned (.tuple #[kT,.int .i64 r2])∧Kd.R (Kd.int .u8) 5 w' w.heap.size (fun _=>True) kT r1∧Below w.heap.size w w':=by
 match l0,h with
 |[a,b],h=>
  unfold pF.f at h;simp only at h
  by_cases hh:0≤a∧a≤4611686018427387903∧0≤b∧b≤4611686018427387903
  ·rw[if_pos hh] at h;obtain⟨rfl,rfl⟩:=Prod.mk.inj (Option.some.inj h);clear h;have HR:=ak fS;obtain⟨ad,rfl,_⟩:=fS.2.2 (show(0:Nat)<2 by omega);clear fS;have HA:=ak (KM hh.1 hh.2.1);have HBm:=ak (KM hh.2.2.1 hh.2.2.2);have HHH:=ak hh;clear hh;go_enter Tryz.func66,Tryz.ntmps66
   go_wp2_with((with_reducible refine ma (N:=10) rfl ?_);refine Kd.Ak (Kd.int .u8) w.heap.size 5 rfl (N:=10) rfl 33 _ _ rfl 16 rfl rfl Tryz.underlying33 (.int .u8 0) 1 kG rfl (by decide) (by omega) 0 (ok:=fun _=>True) (kc:=fun _=>True) rfl (fun _ hk=>hk) trivial (by omega) (by omega) (Below.refl _ _) (Nat.le_refl _) ?_;intro v131 w7 CJ hb qh gY;clear qh gY;rcases(Kd.Af CJ).2 with⟨_,rS⟩|⟨g7,wV,Fk,rfl,pB,X9,lY,X',Tc,ht7⟩;exact absurd rS (by decide);have A7:=ak pB;have B7:=ak X9;have C7:=ak (show 16≤wV by rw[List.length_replicate] at lY;exact lY);have D7:=ak X';have E7:=ak (show Fk.toList.length=wV by rw[Array.length_toList];omega);have G7:=ak hb;clear CJ hb pB X9 lY X' Tc ht7)
   have CC:∃z1 z2 rest:List Value,Fk.toList=z1++(z2++rest)∧z1.length=8∧z2.length=8:=by
    refine⟨Fk.toList.take 8,(Fk.toList.drop 8).take 8,(Fk.toList.drop 8).drop 8,?_,?_,?_⟩
    ·rw[List.take_append_drop,List.take_append_drop]
    ·rw[List.length_take,E7.1];have:=C7.1;omega
    ·rw[List.length_take,List.length_drop,E7.1];have:=C7.1;omega
   obtain⟨z1,z2,rest,hz,yZ,vn⟩:=CC;have HZ:=ak hz;have WL:=ak yZ;have HZ2:=ak vn;clear hz yZ vn
   go_loopw [13] (fun It w'=>∃(i:Nat)(L:List Value),It= .int .i64 i∧i≤2∧ae (w'.heap[g7]? =some (.cells L.toArray 5 (0,0)))∧ae (L=if i=0 then z1++(z2++rest) else if i=1 then kB (Value.int .u8) (w8 a)++(z2++rest) else kB (Value.int .u8) (w8 a)++(kB (Value.int .u8) (w8 b)++rest))∧ae (Below w.heap.size w w')) (fun It w'=>match It with| .int _ m=>2-m.toNat|_=>0)
   case atStart=>exact⟨0,z1++(z2++rest),rfl,by omega,⟨by rw[←HZ.1];simpa using B7.1⟩,⟨rfl⟩,G7⟩
   case round=>
    obtain⟨i,L,rfl,hi,Lt,Uh,kC⟩:=hrel;have SR:=Kd.oR (enc:=Value.int .i64) (d:=(0:Int)) (h1:=fun _=>rfl) (Kd.aj HR.1 kC.1);obtain⟨ad',e,hc⟩:=SR.2.2 (show(0:Nat)<2 by omega);cases e;clear SR
    match i,hi with
    |0,_=>
     have hx:wr.cell? ad=some (.int .i64 a):=by
      have h:=hc 0 (show(0:Nat)<2 by omega);have e:ad.add 0=ad:=by unfold Addr.add;split<;>simp_all
      rw[e] at h;exact h
     clear hc
     have hLl:0+8≤L.length:=by
      rw[Uh.1];simp only[List.length_append,eY,ka,WL.1,HZ2.1,if_true,if_false,reduceIte,Nat.one_ne_zero];omega
     go_wp2_with(first|(go_at_call 110;refine(lX.calls a true _ HA.1).mono ?_;rintro e w1 ⟨rfl,hd⟩;have hb:=BD hd;have TN:=ak ((hb.block _ (aN Lt.1)).trans Lt.1);have nS:=sb kC hb;clear hd hb)|(go_at_call 112;refine(tI.calls g7 0 wV 0 16 _ (by omega) C7.1 (by omega)).mono ?_;rintro e w2 ⟨rfl,rfl⟩)|(go_at_call 111;go_loud (refine(sx.calls g7 (0+8*0) (wV-8*0) a L w.heap.size w _ TN.1 (by omega) nS.1 A7.1 HHH.1.1 HHH.1.2.1).mono ?_;rintro e w3 ⟨rfl,BF,ho3,rQ⟩;have HG3:=ak BF;have GJ:=ak rQ;clear BF ho3 rQ)))
     go_roundw
     case rel=>
      refine⟨1,_,rfl,by omega,HG3,⟨?_⟩,GJ⟩;show wrote L (0+8*0) a 8=kB (Value.int .u8) (w8 a)++(z2++rest);have hL:=Uh.1;rw[if_pos trivial] at hL;rw[hL];exact BE a [] z1 (z2++rest) WL.1
     case measure=>
      show 2-(1:Int).toNat<2-(0:Int).toNat;decide
    |1,_=>
     have hx:wr.cell? (ad.add 1)=some (.int .i64 b):=hc 1 (show(1:Nat)<2 by omega);have oq:=hx;simp only[Addr.add] at oq;rw[if_neg (by decide)] at oq;clear hc hx
     have hLl:8+8≤L.length:=by
      rw[Uh.1];simp only[List.length_append,eY,ka,WL.1,HZ2.1,if_true,if_false,reduceIte,Nat.one_ne_zero];omega
     go_wp2_with(first|(go_at_call 110;refine(lX.calls b true _ HBm.1).mono ?_;rintro e w1 ⟨rfl,hd⟩;have hb:=BD hd;have TN:=ak ((hb.block _ (aN Lt.1)).trans Lt.1);have nS:=sb kC hb;clear hd hb)|(go_at_call 112;refine(tI.calls g7 0 wV 1 16 _ (by omega) C7.1 (by omega)).mono ?_;rintro e w2 ⟨rfl,rfl⟩)|(go_at_call 111;go_loud (refine(sx.calls g7 (0+8*1) (wV-8*1) b L w.heap.size w _ TN.1 (by omega) nS.1 A7.1 HHH.1.2.2.1 HHH.1.2.2.2).mono ?_;rintro e w3 ⟨rfl,BF,ho3,rQ⟩;have HG3:=ak BF;have GJ:=ak rQ;clear BF ho3 rQ)))
     go_roundw
     case rel=>
      refine⟨2,_,rfl,by omega,HG3,⟨?_⟩,GJ⟩;show wrote L (0+8*1) b 8=kB (Value.int .u8) (w8 a)++(kB (Value.int .u8) (w8 b)++rest);have hL:=Uh.1;rw[if_neg (by decide),if_pos trivial] at hL;rw[hL];have:=BE b (kB (Value.int .u8) (w8 a)) z2 rest HZ2.1;rw[eY,ka] at this;exact this
     case measure=>
      show 2-(2:Int).toNat<2-(1:Int).toNat;decide
    |2,_=>
     clear hc;go_wp2;go_ret2;have hLe:=Uh.1;rw[if_neg (by decide),if_neg (by decide)] at hLe;have Fo:(w8 a++w8 b).length=16:=by rw[List.length_append,ka,ka]
     have art:rest.length+16=wV:=by
      have h1:=congrArg List.length HZ.1;rw[E7.1,List.length_append,List.length_append,WL.1,HZ2.1] at h1;omega
     refine⟨_,rfl,Kd.Ae ⟨by rw[eY,Fo],.inr ⟨g7,wV,L.toArray,by rw[Fo];rfl,A7.1,Lt.1,by rw[Fo];exact C7.1,D7.1,?_,?_⟩⟩ (fun _ _=>trivial),kC.1⟩
     ·rw[List.size_toArray,hLe,List.length_append,List.length_append,eY,eY,ka,ka];omega
     ·rw[Fo,hLe,yp,←List.append_assoc];exact List.take_left' (by rw[List.length_append,eY,eY,ka,ka])
  ·rw[if_neg hh] at h;cases h
def ub.f(k:Nat)(l0:List Int):Option Int:=(mq.f k 4294967295 l0).map fun n=>wrap64 (Go.bits .xor .u32 IntKind.u32.max n)
theorem ub.calls(k:Nat)(A0:Option Addr)(c0:Nat)(l0:List Int)(r:Int)(w:World)(fS:Kd.C (Kd.int .u8) w A0 l0.length l0)(jr:l0.length≤c0)(h:ub.f k l0=some r):
 Calls Tryz.prog 153 #[.slice A0 l0.length c0] w fun e w'=>e= .returned (.int .i64 r)∧bN w w':=by
 unfold ub.f at h;obtain⟨n,hn,hr⟩:=Option.map_eq_some_iff.mp h;have jb:=ak fS;have HN:=ak hn;have GL:=ak hr;clear fS hn h hr;go_enter Tryz.func153,Tryz.ntmps153
 go_wp2_with(go_at_call 177;refine(mq.calls k 4294967295 A0 c0 l0 n _ jb.1 jr HN.1).mono ?_;rintro e w2 ⟨rfl,hd⟩)
 go_ret;have hh:=GL.1;subst hh;exact⟨rfl,hd⟩
end Go.Proofs.YtmhdcgmfbjcndaaGreatDoor.P
