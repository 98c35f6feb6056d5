import Derived.Test.YtmhdcgmfbjcndaaGreatDoorB34
import Derived.IntWalk
set_option linter.unusedVariables false
set_option linter.unusedSimpArgs false
set_option maxRecDepth 100000
set_option maxHeartbeats 8000000
namespace Go.Proofs.YtmhdcgmfbjcndaaGreatDoor.P
open Go.RowKit Go.Proofs.aa.ag Go.Proofs.aa.ao Go.Proofs.aa.ay
theorem aga(d:Nat)(w:World)(x0 y0 x1 y1 x2 y2 x3 y3:Int):
 (Op.equalIn (d+2) 23 (.agg #[.int .i64 x0,.int .i64 x1,.int .i64 x2,.int .i64 x3]) (.agg #[.int .i64 y0,.int .i64 y1,.int .i64 y2,.int .i64 y3])).run Tryz.prog w= .ok (x0==y0&&(x1==y1&&(x2==y2&&(x3==y3)))) w:=by
 refine xA Tryz.underlying23 (by kernel_rfl) ?_;refine gG (by rfl) (by go_simp;rfl) (by go_simp;rfl) (by go_simp) ?_;refine gG (by rfl) (by go_simp;rfl) (by go_simp;rfl) (by go_simp) ?_;refine gG (by rfl) (by go_simp;rfl) (by go_simp;rfl) (by go_simp) ?_;exact qP (by rfl) (by go_simp;rfl) (by go_simp;rfl) (by go_simp)
attribute [local go_sem high] aga WT Xk
theorem RE(A0 A1:Option Addr)(c0 c1:Nat)(l:List cU)(w:World)(fS:Kd.C gW w A0 l.length l)(sM:Kd.C gW w A1 l.length l)(hl:l.length≤4096):
 Calls Tryz.prog 25 #[.slice A0 l.length c0,.slice A1 l.length c1] w fun e w'=>e= .returned (.bool true)∧Below w.heap.size w w':=by
 have jb:=ak fS;have Qi:=ak sM;clear fS sM;go_enter Tryz.func25,Tryz.ntmps25;go_wp2
 go_loopw [13] (fun It wr=>∃i:Nat,It= .int .i64 i∧ae (i≤l.length)∧ae (Below w.heap.size w wr)) (fun It _=>l.length-(intOf It).toNat)
 case atStart=>exact⟨0,rfl,⟨Nat.zero_le _⟩,⟨Below.refl _ _⟩⟩
 case round=>
  obtain⟨i,rfl,HI,HB⟩:=hrel
  by_cases cX:i<l.length
  ·have Kw:decide ((i:Int)<(l.length:Int))=true:=by simp;omega
   have p0:=eq_true (show(0:Int)≤(i:Int) by omega);have q0:=eq_true (show(i:Int)<(l.length:Int) by omega);obtain⟨ad0,e0,oe,oq,wj,CT,FQ⟩:=gq (Kd.aj jb.1 HB.1) (i:Int) (by omega) (by omega);obtain⟨ad1,e1,ZR,hy1,UZ,hy3,hy4⟩:=gq (Kd.aj Qi.1 HB.1) (i:Int) (by omega) (by omega);subst e0 e1;generalize aM l (i:Int)=x at oe oq wj CT FQ ZR hy1 UZ hy3 hy4;simp only[Int.toNat_natCast] at oe oq wj CT FQ ZR hy1 UZ hy3 hy4;have xL:=ak cX;go_wp2;go_quiet (fail);go_wp2
   go_roundw
   case rel=>exact⟨i+1,by go_num,⟨xL.1⟩,⟨cZ HB.1 _⟩⟩
   case measure=>simp only[intOf];have:=xL.1;omega
  ·have Oa:decide ((i:Int)<(l.length:Int))=false:=by simp;omega
   go_wp2;go_ret;exact⟨rfl,HB.1⟩
theorem RF(A0 A1:Option Addr)(c0 c1:Nat)(l:List dJ)(w:World)(fS:Kd.C gQ w A0 l.length l)(sM:Kd.C gQ w A1 l.length l)(hl:l.length≤4096):
 Calls Tryz.prog 26 #[.slice A0 l.length c0,.slice A1 l.length c1] w fun e w'=>e= .returned (.bool true)∧Below w.heap.size w w':=by
 have jb:=ak fS;have Qi:=ak sM;clear fS sM;go_enter Tryz.func26,Tryz.ntmps26;go_wp2
 go_loopw [13] (fun It wr=>∃i:Nat,It= .int .i64 i∧ae (i≤l.length)∧ae (Below w.heap.size w wr)) (fun It _=>l.length-(intOf It).toNat)
 case atStart=>exact⟨0,rfl,⟨Nat.zero_le _⟩,⟨Below.refl _ _⟩⟩
 case round=>
  obtain⟨i,rfl,HI,HB⟩:=hrel
  by_cases cX:i<l.length
  ·have Kw:decide ((i:Int)<(l.length:Int))=true:=by simp;omega
   have p0:=eq_true (show(0:Int)≤(i:Int) by omega);have q0:=eq_true (show(i:Int)<(l.length:Int) by omega);obtain⟨ad0,e0,oe,oq,wj⟩:=nW (Kd.aj jb.1 HB.1) (i:Int) (by omega) (by omega);obtain⟨ad1,e1,ZR,hy1,UZ⟩:=nW (Kd.aj Qi.1 HB.1) (i:Int) (by omega) (by omega);subst e0 e1;generalize bK l (i:Int)=x at oe oq wj ZR hy1 UZ;simp only[Int.toNat_natCast] at oe oq wj ZR hy1 UZ;have xL:=ak cX;go_wp2;go_quiet (fail);go_wp2
   go_roundw
   case rel=>exact⟨i+1,by go_num,⟨xL.1⟩,⟨cZ HB.1 _⟩⟩
   case measure=>simp only[intOf];have:=xL.1;omega
  ·have Oa:decide ((i:Int)<(l.length:Int))=false:=by simp;omega
   go_wp2;go_ret;exact⟨rfl,HB.1⟩
theorem Vv(A0 A1:Option Addr)(c0 c1:Nat)(l:List (List Int))(w:World)(fS:Kd.C (Kd.slice 5 (Kd.int .u8)) w A0 l.length l)(sM:Kd.C (Kd.slice 5 (Kd.int .u8)) w A1 l.length l)(hl:l.length≤4096):
 Calls Tryz.prog 27 #[.slice A0 l.length c0,.slice A1 l.length c1,.func (.func 28) #[] #[]] w fun e w'=>e= .returned (.bool true)∧Below w.heap.size w w':=by
 have jb:=ak fS;have Qi:=ak sM;clear fS sM;go_enter Tryz.func27,Tryz.ntmps27;go_wp2
 go_loopw [17] (fun v17 wr=>∃i:Nat,v17= .int .i64 i∧ae (i≤l.length)∧ae (Below w.heap.size w wr)) (fun v17 _=>l.length-(intOf v17).toNat)
 case atStart=>exact⟨0,rfl,⟨Nat.zero_le _⟩,⟨Below.refl _ _⟩⟩
 case round=>
  obtain⟨i,rfl,HI,HB⟩:=hrel
  by_cases cX:i<l.length
  ·have Kw:decide ((i:Int)<(l.length:Int))=true:=by simp;omega
   have p0:=eq_true (show(0:Int)≤(i:Int) by omega);have q0:=eq_true (show(i:Int)<(l.length:Int) by omega);obtain⟨ad0,c0',e0,_,hK0,jr⟩:=dD.FZ (Kd.aj jb.1 HB.1) [] (i:Int) (by omega) (by omega);obtain⟨ad1,c1',e1,_,hK1,tT⟩:=dD.FZ (Kd.aj Qi.1 HB.1) [] (i:Int) (by omega) (by omega);subst e0 e1;generalize l.getD (i:Int).toNat []=x at hK0 hK1;obtain⟨B0,d0,rfl,GC,hC0⟩:=hK0;obtain⟨B1,d1,rfl,hl1,MG⟩:=hK1;have oe:=jr 0 _ rfl;have oq:=tT 0 _ rfl;simp only[Int.toNat_natCast,show(Kd.slice 5 (Kd.int .u8)).sz=1 from rfl,Nat.mul_one,Nat.add_zero] at oe oq;have uj:=ak hC0;have HC1:=ak MG;have HL0:=ak GC;have Uh:=ak hl1;have xL:=ak cX;clear jr tT hC0 MG GC hl1
   go_wp2_with fail
   refine(eM.calls B0 d0 x B1 d1 x true _ uj.1 HL0.1 HC1.1 Uh.1 (by simp [eM.f])).mono ?_;rintro e w9 ⟨rfl,hd⟩;have HB9:=ak (bR HB.1 hd.below);clear oe oq hd;go_wp2
   go_roundw
   case rel=>exact⟨i+1,by go_num,⟨xL.1⟩,HB9⟩
   case measure=>simp only[intOf];have:=xL.1;omega
  ·have Oa:decide ((i:Int)<(l.length:Int))=false:=by simp;omega
   go_wp2;go_ret;exact⟨rfl,HB.1⟩
theorem Iu(az ax aA aC aV aX:Int)(cN abe:Option Addr)(cF agc:Nat)(aw:List cU)(cy abf:Option Addr)(cA agd:Nat)(aD:List dJ)(cC abg:Option Addr)(cB age:Nat)(aG:List (List Int))(w:World)
 (dZ:Kd.C gW w cN aw.length aw) (eb:Kd.C gQ w cy aD.length aD) (dL:Kd.C (Kd.slice 5 (Kd.int .u8)) w cC aG.length aG)
 (XX:Kd.C gW w abe aw.length aw) (XY:Kd.C gQ w abf aD.length aD) (XZ:Kd.C (Kd.slice 5 (Kd.int .u8)) w abg aG.length aG)
 (hl6:aw.length≤4096) (BV:aD.length≤4096) (Vm:aG.length≤4096):
 Calls Tryz.prog 10 #[.agg #[.int .i64 az,.int .i64 ax,.int .i64 aA,.int .i64 aC,.int .i64 aV,.int .i64 aX,.slice cN aw.length cF,.slice cy aD.length cA,.slice cC aG.length cB],.agg #[.int .i64 az,.int .i64 ax,.int .i64 aA,.int .i64 aC,.int .i64 aV,.int .i64 aX,.slice abe aw.length agc,.slice abf aD.length agd,.slice abg aG.length age]] w fun e w'=>e= .returned (.bool true)∧Below w.heap.size w w':=by
 have fD:=ak dZ;have iw:=ak eb;have ix:=ak dL;have agf:=ak XX;have agh:=ak XY;have agi:=ak XZ;have HL6:=ak hl6;have HL7:=ak BV;have HL8:=ak Vm;clear dZ eb dL XX XY XZ hl6 BV Vm;go_enter Tryz.func10,Tryz.ntmps10
 go_wp2_with(first|(go_at_call 25;obtain⟨W0,pK⟩:∃W0,W0=(w.alloc (.cells #[.int .i64 az,.int .i64 ax,.int .i64 aA,.int .i64 aC,.int .i64 aV,.int .i64 aX,.slice cN aw.length cF,.slice cy aD.length cA,.slice cC aG.length cB] 28)).alloc (.cells #[.int .i64 az,.int .i64 ax,.int .i64 aA,.int .i64 aC,.int .i64 aV,.int .i64 aX,.slice abe aw.length agc,.slice abf aD.length agd,.slice abg aG.length age] 28):=⟨_,rfl⟩;obtain⟨q0,q1,q3,q4⟩:=mS w _ _ W0 pK;rw[←pK];clear pK;have D0:=ak q0;have D1:=ak q1;have HB:=ak q4;clear q0 q1 q3 q4;refine(RE _ _ _ _ aw _ (Kd.aj fD.1 HB.1) (Kd.aj agf.1 HB.1) HL6.1).mono ?_;rintro e w9 ⟨rfl,hb⟩;replace D0:=kb D0 hb;(try clear s0);have s0:=cL D0;replace D1:=kb D1 hb;(try clear t0);have t0:=cL D1;replace HB:=sb HB hb;clear hb)|(go_at_call 26;refine(RF _ _ _ _ aD _ (Kd.aj iw.1 HB.1) (Kd.aj agh.1 HB.1) HL7.1).mono ?_;rintro e w9 ⟨rfl,hb⟩;replace D0:=kb D0 hb;(try clear s0);have s0:=cL D0;replace D1:=kb D1 hb;(try clear t0);have t0:=cL D1;replace HB:=sb HB hb;clear hb)|(go_at_call 27;refine(Vv _ _ _ _ aG _ (Kd.aj ix.1 HB.1) (Kd.aj agi.1 HB.1) HL8.1).mono ?_;rintro e w9 ⟨rfl,hb⟩;replace D0:=kb D0 hb;(try clear s0);have s0:=cL D0;replace D1:=kb D1 hb;(try clear t0);have t0:=cL D1;replace HB:=sb HB hb;clear hb))
 go_ret;exact⟨rfl,HB.1⟩
end Go.Proofs.YtmhdcgmfbjcndaaGreatDoor.P
namespace Go.Proofs.YtmhdcgmfbjcndaaGreatDoor.P
open Go.RowKit Go.Proofs.aa.ag Go.Proofs.aa.ao Go.Proofs.aa.ay
attribute [local go_sem↓] Go.wp_at_zero Go.wp_at_succ
structure j' (g:Nat) (W W':World):Prop where
 os:W'.os=W.os
 tape:W'.tape=W.tape
 output:W'.output=W.output
 size:W.heap.size≤W'.heap.size
 block:∀k,k<W.heap.size→k≠g→W'.heap[k]? =W.heap[k]?
theorem j'.fV{g:Nat}{W W':World}(h:Below W.heap.size W W'):j' g W W':=⟨h.os,h.tape,h.output,h.size,fun k hk _=>h.block k hk⟩
theorem j'.refl(g:Nat)(W:World):j' g W W:=⟨rfl,rfl,rfl,Nat.le_refl _,fun _ _ _=>rfl⟩
theorem j'.trans{g:Nat}{W W1 W2:World}(h:j' g W W1)(k:j' g W1 W2):j' g W W2:=
 ⟨k.os.trans h.os,k.tape.trans h.tape,k.output.trans h.output,Nat.le_trans h.size k.size,fun i hi hg=>(k.block i (Nat.lt_of_lt_of_le hi h.size) hg).trans (h.block i hi hg)⟩
theorem j'.below{g:Nat}{w W W':World}(h:j' g W W')(hb:Below w.heap.size w W)(hg:w.heap.size≤g):Below w.heap.size w W':=
 ⟨h.os.trans hb.os,h.tape.trans hb.tape,h.output.trans hb.output,Nat.le_trans hb.size h.size,fun k hk=>(h.block k (Nat.lt_of_lt_of_le hk hb.size) (by omega)).trans (hb.block k hk)⟩
theorem j'.eS{g k:Nat}{W W':World}{o:Obj}(h:j' g W W')(hk:W.heap[k]? =some o)(hg:k≠g):W'.heap[k]? =some o:=(h.block k (aN hk) hg).trans hk
theorem j'.setRow(g:Nat)(W:World)(cs:Array Value):j' g W (W.setRow g cs):=⟨rfl,rfl,rfl,by simp,fun k _ hk=>setRow_other W g k cs hk⟩
theorem j'.drew(g:Nat)(W:World):j' g W W.drew:=⟨rfl,rfl,rfl,Nat.le_refl _,fun _ _ _=>rfl⟩
abbrev cS(L:List Int):Obj:= .cells (nums .u8 L).toArray 5 (0,0)
def fc(L:List Int)(off:Nat)(b:List Int):List Int:=L.take off++(b++L.drop (off+b.length))
theorem ed{L b:List Int}{off:Nat}(h:off+b.length≤L.length):(fc L off b).length=L.length:=by
 simp only[fc,List.length_append,List.length_take,List.length_drop];omega
theorem Vw{W:World}{A:Option Addr}{b:List Int}(h:Kd.C (Kd.int .u8) W A b.length b):0<b.length→∃ad,A=some ad∧∀j v,(nums .u8 b)[j]? =some v→W.cell? (ad.add j)=some v:=by
 intro hp;obtain⟨_,_,hn⟩:=h;obtain⟨ad,e,hc⟩:=hn hp;refine⟨ad,e,fun j v hj=>?_⟩;rw[nums,List.getElem?_map] at hj;cases hb:b[j]? with
 |none=>rw[hb] at hj;simp at hj
 |some x=>
  rw[hb] at hj;obtain⟨c,oK,hK,lZ⟩:=hc j x hb;have h1:c=[.int .u8 x]:=by simpa [Kd.int,Kd.scalar] using hK
  subst h1;have h2:=lZ 0 _ rfl;simp only[show(Kd.int .u8).sz=1 from rfl,Nat.mul_one,Nat.add_zero] at h2;rw[h2];simpa using hj
theorem sF{P:Program}{w:World}{ops:Array Oper}{rest:List Oper}{o:Oper}{a:Act}{Q:Exit→Act→World→Prop}(um:o.guard=none)(d s:Operand)(dT sT:TypeId)
 (ho:o.op= .call {callee:= .builtin .copy,args:= #[d,s],argTypes:= #[dT,sT]}) (hu:P.underlying dT=some (.slice 5)) (oL:(P.info? 5).map (·.size)=some 1)
 (g off Fj Ok Ol:Nat) (L b:List Int) (A:Option Addr) (dp:Option Addr) (hd:a.eval d= .slice dp Fj Ok) (hdp:0<b.length→dp=some ⟨g,off,none⟩) (hs:a.eval s= .slice A b.length Ol)
 (hg:w.heap[g]? =some (cS L)) (hC:Kd.C (Kd.int .u8) w A b.length b) (hle:b.length≤Fj) (Ds:off+b.length≤L.length)
 (h:∀w',ae (w'.heap[g]? =some (cS (fc L off b)))→ae (j' g w w')→wpList P ops Q rest (a.put o.dst (goInt b.length)) w'):wpList P ops Q (o::rest) a w:=by
 by_cases h0:b.length=0
 ·obtain rfl:b=[]:=List.eq_nil_of_length_eq_zero h0;refine wpList_copy_nothing um d s dT sT ho 5 hu oL dp A Fj Ok 0 Ol hd hs (by simp) ?_;exact h w ⟨by simpa [fc] using hg⟩ ⟨j'.refl _ _⟩
 ·obtain⟨ad,rfl,anj⟩:=Vw hC (by omega);have hn:(nums .u8 b).length=Nat.min b.length Fj:=by rw[nums_length];exact(Nat.min_eq_left hle).symm
  refine wpList_copy_own um d s dT sT ho 5 hu oL g off Fj Ok ad b.length Ol (by rw[hd,hdp (by omega)]) hs _ 5 hg (nums .u8 b) hn anj (by rw[nums_length];simpa [nums] using Ds) (by simp [nums,Value.oneCell']) ?_;rw[nums_length];refine h _ ⟨?_⟩ ⟨j'.setRow _ _ _⟩;rw[setRow_heap _ _ _ _ _ _ hg];simp [fc,nums,cS]
theorem pD(gy go:Nat)(ys:Array Value)(line:Int)(m cap Ol:Nat)(L b:List Int)(A:Option Addr)(W:World)(hy:W.heap[gy]? =some (.cells ys 87 (0,0)))(Tr:ys[18]? =some (.slice (some ⟨go,0,none⟩) m m))
 (Lh:W.heap[go]? =some (cS L)) (hC:Kd.C (Kd.int .u8) W A b.length b) (hm:L.length=m) (h0:0≤line) (h1:line.toNat*64+b.length≤m) (cX:line.toNat*64<m) (hm2:m≤262144):
 Calls Tryz.prog 63 #[.pointer (some ⟨gy,0,none⟩),.int .i64 line,.slice A b.length Ol] W fun e w'=>e= .returned (.tuple #[])∧w'.heap[go]? =some (cS (fc L (line.toNat*64) b))∧j' go W w':=by
 obtain⟨l,rfl⟩:∃l:Nat,line=(l:Int):=⟨line.toNat,by omega⟩;rw[Int.toNat_natCast] at h1 cX⊢;have y18:=(ah hy 18).trans Tr;have HGO:=ak Lh;have HC:=ak hC;have HM:=ak hm;have b1:(l:Int)*64≤262144:=by omega
 have b2:(0:Int)≤(l:Int)*64:=by omega
 have b3:=eq_false (show¬m=l*64 by omega);clear hy Tr Lh hC hm;go_enter Tryz.func63,Tryz.ntmps63
 go_wp2_with((with_reducible refine gd 14 ?_);refine sF rfl (.tmp 12) (.tmp 13) 33 33 rfl Tryz.underlying33 (by kernel_rfl) go (l*64) (m-l*64) (m-l*64) Ol L b A _ rfl (fun _=>rfl) rfl HGO.1 HC.1 (by omega) (ow HM) ?_;intro w9 HG9 HB9)
 go_end0
 exact⟨rfl,HG9.1,HB9.1⟩
theorem BC(gy go:Nat)(ys:Array Value)(hl:Int)(m:Nat)(W:World)(hy:W.heap[gy]? =some (.cells ys 87 (0,0)))(Tr:ys[18]? =some (.slice (some ⟨go,0,none⟩) m m))(hya:ys[16]? =some (.int .i64 hl))
 (h0:0≤hl) (cX:hl.toNat*64<m) (hm2:m≤262144):
 Calls Tryz.prog 67 #[.pointer (some ⟨gy,0,none⟩)] W fun e w'=>e= .returned (.slice (some ⟨go,hl.toNat*64,none⟩) (m-hl.toNat*64) (m-hl.toNat*64))∧bN W w':=by
 obtain⟨l,rfl⟩:∃l:Nat,hl=(l:Int):=⟨hl.toNat,by omega⟩;rw[Int.toNat_natCast] at cX⊢;have y18:=(ah hy 18).trans Tr;have y16:=(ah hy 16).trans hya;have b1:(l:Int)*64≤262144:=by omega
 have b2:(0:Int)≤(l:Int)*64:=by omega
 have b3:=eq_false (show¬m=l*64 by omega);have b4:IntKind.i64.wrap ((l:Int)*64)=(l:Int)*64:=IntWalk.i64_in _ (by omega);have b5:((l:Int)*64).toNat=l*64:=by omega
 have b6:decide ((l:Int)*64≤(m:Int))=true:=decide_eq_true (by omega);have b7:=eq_true (show(l:Int)*64≤(m:Int) by omega);have b8:=eq_true b2;clear hy Tr hya;go_enter Tryz.func67,Tryz.ntmps67;go_wp2;go_quiet (fail);go_wp2;go_ret;exact⟨rfl,⟨⟨_,rfl⟩⟩⟩
theorem atI{w:World}{A:Option Addr}{n:Nat}{l:List Int}(h:Kd.C (Kd.int .i64) w A n l)(i:Nat)(hi:i<n):∃ad,A=some ad∧w.cell? (ad.add i)=some (.int .i64 (l.getD i 0)):=by
 obtain⟨ad,c,e,hl,hK,hc⟩:=dD.FZ h 0 (i:Int) (by omega) (by omega);have h1:c=[.int .i64 (l.getD i 0)]:=by simpa [Kd.int,Kd.scalar] using hK
 subst h1;have h2:=hc 0 _ rfl;simp only[Int.toNat_natCast,show(Kd.int .i64).sz=1 from rfl,Nat.mul_one,Nat.add_zero] at h2;exact⟨ad,e,h2⟩
theorem Iy{W:World}{g:Nat}{L:List Int}(h:W.heap[g]? =some (cS L))(hl:L.length≤262144):Kd.C (Kd.int .u8) W (some ⟨g,0,none⟩) L.length L:=by
 refine⟨rfl,by omega,fun _=>⟨_,rfl,fun j p hj=>⟨[.int .u8 p],rfl,rfl,fun i u hu=>?_⟩⟩⟩;cases i with
 |zero=>
  simp only[List.getElem?_cons_zero,Option.some.injEq] at hu;subst hu;rw[show(Kd.int .u8).sz=1 from rfl,Nat.mul_one,Nat.add_zero,add_plain,ah h];simp [nums,hj]
 |succ i=>simp at hu
theorem BG{W:World}{g:Nat}{L:List Int}(h:W.heap[g]? =some (.cells (nums .i64 L).toArray 3 (0,0)))(hl:L.length≤262144):Kd.C (Kd.int .i64) W (some ⟨g,0,none⟩) L.length L:=by
 refine⟨rfl,by omega,fun _=>⟨_,rfl,fun j p hj=>⟨[.int .i64 p],rfl,rfl,fun i u hu=>?_⟩⟩⟩;cases i with
 |zero=>
  simp only[List.getElem?_cons_zero,Option.some.injEq] at hu;subst hu;rw[show(Kd.int .i64).sz=1 from rfl,Nat.mul_one,Nat.add_zero,add_plain,ah h];simp [nums,hj]
 |succ i=>simp at hu
theorem RJ{l:List Int}{i:Nat}(h:i<l.length):(l.take (i+1)).flatMap w8=(l.take i).flatMap w8++w8 (l.getD i 0):=by
 rw[List.take_add_one,List.getElem?_eq_getElem h,List.flatMap_append];simp [List.getD_eq_getElem?_getD,List.getElem?_eq_getElem h]
theorem wX(l:List Int):(l.flatMap w8).length=8*l.length:=by
 induction l with
 |nil=>rfl
 |cons a l ih=>rw[List.flatMap_cons,List.length_append,ih,ka,List.length_cons];omega
def BH(l:List Int)(i:Nat):List Int:=(l.take i).flatMap w8++List.replicate (8*(l.length-i)) 0
theorem Oo{l:List Int}{i:Nat}(h:i<l.length):wrote (nums .u8 (BH l i)) (8*i) (l.getD i 0) 8=nums .u8 (BH l (i+1)):=by
 have e:BH l i=(l.take i).flatMap w8++(List.replicate 8 0++List.replicate (8*(l.length-(i+1))) 0):=by
  rw[BH,List.replicate_append_replicate]
  congr 2
  omega
 rw[e,nC,nC];have hl:8*i=(nums .u8 ((l.take i).flatMap w8)).length:=by rw[nums_length,wX,List.length_take];omega
 rw[hl,BE _ _ _ _ (by simp [nums])];rw[BH,RJ h,nC,nC,List.append_assoc];rfl
theorem tJ(A:Option Addr)(c:Nat)(l:List Int)(w:World)(hr:Kd.C (Kd.int .i64) w A l.length l)(hl:l.length≤125)(rR:∀i:Nat,i<l.length→0≤l.getD i 0∧l.getD i 0≤4611686018427387903):
 Calls Tryz.prog 66 #[.slice A l.length c] w fun e w'=>∃g:Nat,e= .returned (.tuple #[.slice (some ⟨g,0,none⟩) (8*l.length) (8*l.length),.int .i64 0])∧w.heap.size≤g∧w'.heap[g]? =some (cS (l.flatMap w8))∧Below w.heap.size w w':=by
 have HR:=ak hr;have anv:=ak rR;have Nw:=tD (8*l.length) (by omega);have e1:((8*l.length:Nat):Int)=(l.length:Int)*8:=by omega
 rw[e1] at Nw;clear hr rR e1;go_enter Tryz.func66,Tryz.ntmps66;go_wp2;obtain⟨W1,fI⟩:∃X,X=w.alloc (.cells (Array.replicate (8*l.length) (.int .u8 0)) 5):=⟨_,rfl⟩;rw[←fI];have HB:=ak (show Below w.heap.size w W1 by rw[fI];exact ab (Below.refl _ _) _);have HG:=ak (show W1.heap[w.heap.size]? =some (cS (BH l 0)) by rw[fI,aI];simp [cS,nums,BH]);clear fI Nw
 go_loopw [13] (fun It wr=>∃i:Nat,It= .int .i64 i∧ae (i≤l.length)∧ae (Below w.heap.size w wr)∧ae (wr.heap[w.heap.size]? =some (cS (BH l i)))) (fun It _=>l.length-(intOf It).toNat)
 case atStart=>exact⟨0,rfl,⟨Nat.zero_le _⟩,HB,HG⟩
 case round=>
  clear HB HG;obtain⟨i,rfl,HI,HB,HG⟩:=hrel
  by_cases cX:i<l.length
  ·have Kw:decide ((i:Int)<(l.length:Int))=true:=by simp;omega
   have p0:=eq_true (show(0:Int)≤(i:Int) by omega);have q0:=eq_true (show(i:Int)<(l.length:Int) by omega);obtain⟨ad0,e0,oe⟩:=atI (Kd.aj HR.1 HB.1) i cX;subst e0;obtain⟨hA0,hA1⟩:=anv.1 i cX;have hST:=ak (Oo cX);have HLL:=ak (show(nums .u8 (BH l i)).length=8*l.length by rw[nums_length,BH,List.length_append,wX,List.length_take,List.length_replicate];omega);generalize l.getD i 0=x at oe hA0 hA1 hST;have HM:=ak (KM hA0 hA1);have xL:=ak cX
   go_wp2_with(first|(go_at_call 110;refine(lX.calls x true _ HM.1).mono ?_;rintro e w1 ⟨rfl,hd⟩;have hb:=hd.below;have TN:=kb HG hb;have nS:=sb HB hb;clear hd hb)|(go_at_call 112;refine(tI.calls w.heap.size 0 (8*l.length) i (8*l.length) _ (by omega) (Nat.le_refl _) (by omega)).mono ?_;rintro e w2 ⟨rfl,rfl⟩)|(go_at_call 111;refine(sx.calls w.heap.size (8*i) (8*l.length-8*i) x _ w.heap.size w _ TN.1 (ow HLL) nS.1 (Nat.le_refl _) hA0 hA1).mono ?_;rintro e w3 ⟨rfl,BF,_,rQ⟩;have HG3:=ak BF;have GJ:=ak rQ;clear BF rQ))
   go_roundw
   case rel=>exact⟨i+1,by go_num,⟨xL.1⟩,GJ,⟨by have:=HG3.1;rw[hST.1] at this;exact this⟩⟩
   case measure=>simp only[intOf];have:=xL.1;omega
  ·have Oa:decide ((i:Int)<(l.length:Int))=false:=by simp;omega
   obtain rfl:i=l.length:=by have:=HI.1;omega
   go_wp2;go_ret2;have h:=HG.1;rw[BH,List.take_length,Nat.sub_self,Nat.mul_zero,List.replicate_zero,List.append_nil] at h;exact⟨w.heap.size,rfl,Nat.le_refl _,h,HB.1⟩
theorem VE(n:Int):([n]:List Int).flatMap w8=w8 n:=by simp
theorem RK{n:Int}(h0:0≤n)(h1:n≤4611686018427387903):∀i:Nat,i<([n]:List Int).length→0≤([n]:List Int).getD i 0∧([n]:List Int).getD i 0≤4611686018427387903:=by
 intro i hi;have h:i=0:=by simpa using hi
 subst h;exact⟨h0,h1⟩
theorem KN(k:Nat)(A:Option Addr)(c:Nat)(b:List Int)(n:Int)(w:World)(hC:Kd.C (Kd.int .u8) w A b.length b)(hc:b.length≤c)(hb:b.length≤4096)(hs:ub.f k b=some n)(h0:0≤n)(h1:n≤4611686018427387903):
 Calls Tryz.prog 99 #[.slice A b.length c] w fun e w'=>∃v0:Value,e= .returned v0∧Kd.R (Kd.int .u8) 5 w' w.heap.size (fun _=>True) v0 (b++w8 n)∧Below w.heap.size w w':=by
 have HC:=ak hC;have HS:=ak hs;have HB:=ak (Below.refl w.heap.size w);clear hC hs;go_enter Tryz.func99,Tryz.ntmps99
 go_wp2_with fail
 refine(ub.calls k A c b n _ HC.1 hc HS.1).mono ?_;rintro e w1 ⟨rfl,hd⟩;replace HB:=ak (bR HB.1 hd.below);clear hd
 go_wp2_with fail
 have im:=ab (Below.refl w1.heap.size w1) (.cells #[.int .i64 n] 3);refine(tJ (some ⟨w1.heap.size,0,none⟩) 1 [n] _ (BG (aI w1 _) (by simp)) (by simp) (RK h0 h1)).mono ?_;rintro e w2 ⟨g,rfl,hg,pL,iq⟩;rw[VE] at pL;replace HB:=ak (bR (bR HB.1 im) iq);have HG:=ak pL;clear hg pL im iq
 go_wp2_with fail
 refine(dv.calls A c b b _ (Kd.aj HC.1 HB.1) hc (by unfold dv.f;rw[if_pos (by omega)])).mono ?_;rintro e w3 ⟨v3,rfl,hr,rQ⟩;have HR:=ak (Kd.bO hr (aq HB.1));replace HG:=kb HG rQ;replace HB:=sb HB rQ;clear hr rQ
 go_wp2_with((with_reducible refine ma (N:=15) rfl ?_);refine Kd.ep (Kd.int .u8) (Rr:=(Kd.int .u8).K w3) w.heap.size rfl (.tmp 13) (.tmp 14) 33 5 (.int .u8 0) 1 rfl Tryz.underlying33 kG rfl (by decide) (by decide) v3 b (w8 n) (some ⟨g,0,none⟩) 8 8 (fun _=>True) (fun _=>False) rfl rfl HR.1 (Iy HG.1 (by simp [w8])) (fun _ _ h=>h) (fun _ hk=>hk.elim) (fun _ _=>trivial) HB.1 (aq HB.1) (by omega) ?_;intro v4 w4 ho vh rP dH;have HO:=ak ho;have SU:=ak vh;clear ho vh rP dH)
 go_ret;exact⟨_,rfl,HO.1,SU.1⟩
def SW1:List Int:=[54238244327242,2,2,4,2,60,2]
def Oq:List Int:=SW1.flatMap w8
def BU:List Int:=Oq++w8 2278735499
theorem mr:Oq.length=56:=by decide+kernel
theorem fF:BU.length=64:=by decide+kernel
theorem anz:ub.f 500 Oq=some 2278735499:=by decide+kernel
theorem abn:bM.f 200 2 4 2 60 2 2=some true:=by decide+kernel
theorem Yb(A:Option Addr)(c:Nat)(w:World)(hC:Kd.C (Kd.int .u8) w A 56 Oq)(hc:56≤c):
 Calls Tryz.prog 99 #[.slice A 56 c] w fun e w'=>∃v0:Value,e= .returned v0∧Kd.R (Kd.int .u8) 5 w' w.heap.size (fun _=>True) v0 BU∧Below w.heap.size w w':=by
 have h:=KN 500 A c Oq 2278735499 w (by rw[mr];exact hC) (by rw[mr];exact hc) (by rw[mr];decide) anz (by decide) (by decide);rw[mr] at h;exact h
theorem RL(w:World):
 Calls Tryz.prog 60 #[.agg #[.int .i64 2,.int .i64 4,.int .i64 2,.int .i64 60],.int .i64 2,.int .i64 2] w fun e w'=>∃v0:Value,e= .returned (.tuple #[v0,.int .i64 0])∧Kd.R (Kd.int .u8) 5 w' w.heap.size (fun _=>True) v0 BU∧Below w.heap.size w w':=by
 obtain⟨W1,fI⟩:∃X,X=w.alloc (.cells #[.int .i64 2,.int .i64 4,.int .i64 2,.int .i64 60] 23):=⟨_,rfl⟩;have HB:=ak (show Below w.heap.size w W1 by rw[fI];exact ab (Below.refl _ _) _);have D1:=ak (show W1.heap[w.heap.size]? =some (.cells #[.int .i64 2,.int .i64 4,.int .i64 2,.int .i64 60] 23 (0,0)) by rw[fI];exact aI w _);have xo:=ak fI;clear fI;go_enter Tryz.func60,Tryz.ntmps60
 go_wp2_with fail
 rw[←xo.1];refine(bM.calls 200 2 4 2 60 2 2 true _ abn).mono ?_;rintro e w2 ⟨rfl,hb⟩;replace D1:=kb D1 hb;replace HB:=sb HB hb;clear hb;have d0:=cL D1
 go_wp2_with fail
 have im:=ab (Below.refl w2.heap.size w2) (.cells (nums .i64 SW1).toArray 3);refine(tJ (some ⟨w2.heap.size,0,none⟩) 7 SW1 _ (BG (aI w2 _) (by decide)) (by decide) (by decide)).mono ?_;rintro e w3 ⟨g,rfl,hg,pL,iq⟩;have HG:=ak (show w3.heap[g]? =some (cS Oq) from pL);replace HB:=ak (bR (bR HB.1 im) iq);clear hg pL im iq d0 D1
 go_wp2_with fail
 refine(Yb (some ⟨g,0,none⟩) 56 _ (by have h:=Iy HG.1 (show Oq.length≤262144 by rw[mr];decide);rw[mr] at h;exact h) (Nat.le_refl _)).mono ?_;rintro e w4 ⟨v0,rfl,hr,hb⟩;have HR:=ak (Kd.bO hr (aq HB.1));replace HB:=sb HB hb;clear hr hb;go_wp2;go_ret2;exact⟨_,rfl,HR.1,HB.1⟩
theorem KO(at_ len:Int)(w:World):Calls Tryz.prog 101 #[.agg #[.int .i64 0,.bool true,.bool true,.int .i64 at_,.int .i64 len]] w fun e w'=>e= .returned (.int .i64 3)∧Below w.heap.size w w':=by
 go_enter Tryz.func101,Tryz.ntmps101;go_wp2;go_ret;exact⟨rfl,ab (Below.refl _ _) _⟩
theorem KP(at_ len:Int)(w:World):Calls Tryz.prog 101 #[.agg #[.int .i64 0,.bool false,.bool false,.int .i64 at_,.int .i64 len]] w fun e w'=>e= .returned (.int .i64 0)∧Below w.heap.size w w':=by
 go_enter Tryz.func101,Tryz.ntmps101;go_wp2;go_ret;exact⟨rfl,ab (Below.refl _ _) _⟩
def RM(ws:List Int)(i:Nat)(live:Bool)(at_ len Tg:Int):List Int:=
 if live then fc ws (i*4) [3,at_,len] else(fc ws (i*4) [0,at_,len]).set (i*4+3) Tg
theorem Ot(i:Nat)(hi:i<4)(A:Option Addr)(c:Nat)(l:List cU)(at_ len Tg:Int)(live:Bool)(RN:live=true)(OL:i<l.length)(hs:aM l (i:Int)=⟨0,live,live,at_,len⟩)(ws:List Int)(Yc:ws.length=16)(b1 b4 b5 gw:Nat)(mA:b5≠gw)(w:World)
 (h1:w.heap[b1]? =some (.cells #[.slice A l.length c] 24 (0,0))) (hC:Kd.C gW w A l.length l) (h4:w.heap[b4]? =some (.cells #[.slice (some ⟨gw,0,none⟩) 16 16] 68 (0,0))) (h5:w.heap[b5]? =some (.cells #[.int .i64 Tg] 3 (0,0))) (hw:w.heap[gw]? =some (.cells (nums .i64 ws).toArray 3 (0,0))):
 Calls Tryz.prog 100 #[.int .i64 i,.pointer (some ⟨b1,0,none⟩),.pointer (some ⟨b4,0,none⟩),.pointer (some ⟨b5,0,none⟩)] w fun e w'=>e= .returned (.tuple #[])∧w'.heap[b1]? =some (.cells #[.slice A l.length c] 24 (0,0))∧w'.heap[b4]? =some (.cells #[.slice (some ⟨gw,0,none⟩) 16 16] 68 (0,0))∧w'.heap[b5]? =some (.cells #[.int .i64 (if live then Tg else(i:Int)+1)] 3 (0,0))∧w'.heap[gw]? =some (.cells (nums .i64 (RM ws i live at_ len Tg)).toArray 3 (0,0))∧(∀w0:World,Below w0.heap.size w0 w→w0.heap.size≤b5→w0.heap.size≤gw→Below w0.heap.size w0 w'):=by
 obtain⟨ad0,e0,oe,oq,wj,CT,FQ⟩:=gq hC (i:Int) (by omega) (by omega);subst e0;rw[hs] at oe oq wj CT FQ;dsimp only at oe oq wj CT FQ;simp only[Int.toNat_natCast] at oe oq wj CT FQ;have D1:=ak h1;have D4:=ak h4;have D5:=ak h5;have DW:=ak hw;have HWL:=ak Yc;have d1:=(ah h1 0).trans rfl;have p0:=eq_true (show(0:Int)≤(i:Int) by omega);have q0:=eq_true (show(i:Int)<(l.length:Int) by omega);have x2:(0:Int)≤(i:Int)*4:=by omega
 have x3:=eq_false (show¬16=i*4 by omega);have x4:IntKind.i64.wrap ((i:Int)*4)=(i:Int)*4:=IntWalk.i64_in _ (by omega);have x5:((i:Int)*4).toNat=i*4:=by omega
 have x6:decide ((i:Int)*4≤16)=true:=decide_eq_true (by omega);have x7:=eq_true (show(i:Int)*4≤16 by omega);have x8:=eq_true x2;clear h1 hC h4 h5 hw Yc hs;go_enter Tryz.func100,Tryz.ntmps100;subst RN;go_wp2;obtain⟨W1,fI⟩:∃X,X=w.alloc (.cells #[.int .i64 0,.bool true,.bool true,.int .i64 at_,.int .i64 len] 43):=⟨_,rfl⟩;rw[←fI];have im:Below w.heap.size w W1:=(by rw[fI];exact ab (Below.refl _ _) _);have DS:=ak (show W1.heap[w.heap.size]? =some (.cells #[.int .i64 0,.bool true,.bool true,.int .i64 at_,.int .i64 len] 43 (0,0)) by rw[fI];exact aI w _);clear fI;replace D1:=kb D1 im;replace D4:=kb D4 im;replace D5:=kb D5 im;replace DW:=kb DW im;have HB:=ak im;clear im oe oq wj CT FQ d1;refine eW (n:=12) (S:=fun w'=>w'.cell? ⟨b4,0,none⟩=some (.slice (some ⟨gw,0,none⟩) 16 16)∧w'.cell? ⟨w.heap.size,0,none⟩=some (.int .i64 0)∧w'.cell? ⟨w.heap.size,1,none⟩=some (.bool true)∧w'.cell? ⟨w.heap.size,2,none⟩=some (.bool true)∧w'.cell? ⟨w.heap.size,3,none⟩=some (.int .i64 at_)∧w'.cell? ⟨w.heap.size,4,none⟩=some (.int .i64 len)) (ds:=[11]) #[false,false,false,false,false,false,false,false,false,false,false,false] (by kernel_rfl) rfl rfl ⟨cL D4 0,cL DS 0,cL DS 1,cL DS 2,cL DS 3,cL DS 4⟩ (fun hHeld=>?_);replace D1:=kd D1;replace D4:=kd D4;replace D5:=kd D5;replace DW:=kd DW;replace DS:=kd DS;replace HB:=sd HB;generalize W1.drew=W2 at D1 D4 D5 DW DS HB hHeld⊢;refine lq 0 10 hHeld ?_;refine cP 1 11 ?_;refine cP 2 12 ?_;refine cP 3 13 ?_;refine lq 4 14 hHeld ?_;refine cP 6 16 ?_;refine lq 7 17 hHeld ?_;refine cP 8 18 ?_;refine lq 9 19 hHeld ?_;refine kD 5 15 fun K hK=>?_;refine pN Tryz.func101 #[.agg #[.int .i64 0,.bool true,.bool true,.int .i64 at_,.int .i64 len]] ?_;refine(KO at_ len _).mono ?_;rintro e W3 ⟨rfl,hb⟩;refine⟨_,rfl,?_⟩;replace D1:=kb D1 hb;replace D4:=kb D4 hb;replace D5:=kb D5 hb;replace DW:=kb DW hb;replace DS:=kb DS hb;replace HB:=sb HB hb;clear hb hHeld;refine ft hK (fun hHeld=>?_);clear hK K;refine kD 10 20 fun K hK=>?_;refine nQ ?_;have hb:=ab (Below.refl W3.heap.size W3) (.cells #[.int .i64 3,.int .i64 at_,.int .i64 len] 3);have hn:=aI W3 (.cells #[.int .i64 3,.int .i64 at_,.int .i64 len] 3);replace D1:=kb D1 hb;replace D4:=kb D4 hb;replace D5:=kb D5 hb;replace DW:=kb DW hb;replace DS:=kb DS hb;replace HB:=sb HB hb;have DN:=ak hn;clear hb hn hHeld;refine ft hK (fun hHeld=>?_);clear hK K;generalize W3.alloc (.cells #[.int .i64 3,.int .i64 at_,.int .i64 len] 3)=W4 at D1 D4 D5 DW DS HB DN hHeld⊢
 have zP:=run_copy_row (P:=Tryz.prog) W4 68 68 3 3 gw (i*4) (16-i*4) (16-i*4) ⟨W3.heap.size,0,none⟩ 3 3 _ 3 [.int .i64 3,.int .i64 at_,.int .i64 len] Tryz.underlying68 (by kernel_rfl) DW.1 (show(3:Nat)=Nat.min 3 (16-i*4) from(Nat.min_eq_left (by omega:3≤16-i*4)).symm) (by
  intro j v hj;rw[show(⟨W3.heap.size,0,none⟩:Addr).add j=⟨W3.heap.size,j,none⟩ from add_plain _ _,ah DN.1 j];simpa using hj) (by simp [nums];have:=HWL.1;omega) (by simp [Value.oneCell'])
 refine qL (i:=11) (N:=some 21) #[true,true,true,true,true,true,true,true,true,true,true,true] rfl rfl (by kernel_rfl) (by decide) (fun K hK=>?_);refine Dl (w1:= ?_) (v:= ?_) (by rfl) rfl ?_ ?_;rotate_left 2
 ·simp [execOp,resolve,invoke,builtin,Act.eval,zP,Result.andThen];constructor
  ·rfl
  ·rfl
 refine hK.out _ _ ?_;clear hK K zP hHeld;refine gF (by kernel_rfl) ?_;obtain⟨W5,rO⟩:∃X,X=W4.setRow gw ((nums .i64 ws).take (i*4)++(([.int .i64 3,.int .i64 at_,.int .i64 len]:List Value)++(nums .i64 ws).drop (i*4+3))).toArray:=⟨_,rfl⟩;refine(show W4.setRow gw _=W5 from rO.symm)▸?_;have E1:=ak ((show W5.heap[b1]? =W4.heap[b1]? by rw[rO];exact setRow_other _ _ _ _ (dQ D1.1 DW.1 (by decide))).trans D1.1);have E4:=ak ((show W5.heap[b4]? =W4.heap[b4]? by rw[rO];exact setRow_other _ _ _ _ (dQ D4.1 DW.1 (by decide))).trans D4.1);have ES:=ak ((show W5.heap[w.heap.size]? =W4.heap[w.heap.size]? by rw[rO];exact setRow_other _ _ _ _ (dQ DS.1 DW.1 (by decide))).trans DS.1);have E5:=ak ((show W5.heap[b5]? =W4.heap[b5]? by rw[rO];exact setRow_other _ _ _ _ mA).trans D5.1);have EW:=ak (show W5.heap[gw]? =some (.cells (nums .i64 (fc ws (i*4) [3,at_,len])).toArray 3 (0,0)) from by rw[rO,setRow_heap _ _ _ _ _ _ DW.1];simp [fc,nums]);have EB:=ak (show∀w0:World,Below w0.heap.size w0 w→w0.heap.size≤gw→Below w0.heap.size w0 W5 from fun w0 h hg=>by rw[rO];exact below_setRow (bR h HB.1) hg _);clear rO D1 D4 D5 DW DS DN HB;have s0:=cL ES
 go_wp2_with(go_at_call 102;refine(iX.calls 0 true true at_ len false _ rfl).mono ?_;rintro e W6 ⟨rfl,hb⟩;replace E1:=kb E1 hb;replace E4:=kb E4 hb;replace E5:=kb E5 hb;replace EW:=kb EW hb;have EB6:=ak (show∀w0:World,Below w0.heap.size w0 w→w0.heap.size≤gw→Below w0.heap.size w0 W6 from fun w0 h hg=>bR (EB.1 w0 h hg) hb);clear hb s0 ES EB)
 go_end0
 exact⟨rfl,E1.1,E4.1,E5.1,EW.1,fun w0 h _ hg=>EB6.1 w0 h hg⟩
theorem ye(i:Nat)(hi:i<4)(A:Option Addr)(c:Nat)(l:List cU)(at_ len Tg:Int)(live:Bool)(RN:live=false)(OL:i<l.length)(hs:aM l (i:Int)=⟨0,live,live,at_,len⟩)(ws:List Int)(Yc:ws.length=16)(b1 b4 b5 gw:Nat)(mA:b5≠gw)(w:World)
 (h1:w.heap[b1]? =some (.cells #[.slice A l.length c] 24 (0,0))) (hC:Kd.C gW w A l.length l) (h4:w.heap[b4]? =some (.cells #[.slice (some ⟨gw,0,none⟩) 16 16] 68 (0,0))) (h5:w.heap[b5]? =some (.cells #[.int .i64 Tg] 3 (0,0))) (hw:w.heap[gw]? =some (.cells (nums .i64 ws).toArray 3 (0,0))):
 Calls Tryz.prog 100 #[.int .i64 i,.pointer (some ⟨b1,0,none⟩),.pointer (some ⟨b4,0,none⟩),.pointer (some ⟨b5,0,none⟩)] w fun e w'=>e= .returned (.tuple #[])∧w'.heap[b1]? =some (.cells #[.slice A l.length c] 24 (0,0))∧w'.heap[b4]? =some (.cells #[.slice (some ⟨gw,0,none⟩) 16 16] 68 (0,0))∧w'.heap[b5]? =some (.cells #[.int .i64 (if live then Tg else(i:Int)+1)] 3 (0,0))∧w'.heap[gw]? =some (.cells (nums .i64 (RM ws i live at_ len Tg)).toArray 3 (0,0))∧(∀w0:World,Below w0.heap.size w0 w→w0.heap.size≤b5→w0.heap.size≤gw→Below w0.heap.size w0 w'):=by
 obtain⟨ad0,e0,oe,oq,wj,CT,FQ⟩:=gq hC (i:Int) (by omega) (by omega);subst e0;rw[hs] at oe oq wj CT FQ;dsimp only at oe oq wj CT FQ;simp only[Int.toNat_natCast] at oe oq wj CT FQ;have D1:=ak h1;have D4:=ak h4;have D5:=ak h5;have DW:=ak hw;have HWL:=ak Yc;have d1:=(ah h1 0).trans rfl;have p0:=eq_true (show(0:Int)≤(i:Int) by omega);have q0:=eq_true (show(i:Int)<(l.length:Int) by omega);have x2:(0:Int)≤(i:Int)*4:=by omega
 have x3:=eq_false (show¬16=i*4 by omega);have x4:IntKind.i64.wrap ((i:Int)*4)=(i:Int)*4:=IntWalk.i64_in _ (by omega);have x5:((i:Int)*4).toNat=i*4:=by omega
 have x6:decide ((i:Int)*4≤16)=true:=decide_eq_true (by omega);have x7:=eq_true (show(i:Int)*4≤16 by omega);have x8:=eq_true x2;clear h1 hC h4 h5 hw Yc hs;go_enter Tryz.func100,Tryz.ntmps100;subst RN;go_wp2;obtain⟨W1,fI⟩:∃X,X=w.alloc (.cells #[.int .i64 0,.bool false,.bool false,.int .i64 at_,.int .i64 len] 43):=⟨_,rfl⟩;rw[←fI];have im:Below w.heap.size w W1:=(by rw[fI];exact ab (Below.refl _ _) _);have DS:=ak (show W1.heap[w.heap.size]? =some (.cells #[.int .i64 0,.bool false,.bool false,.int .i64 at_,.int .i64 len] 43 (0,0)) by rw[fI];exact aI w _);clear fI;replace D1:=kb D1 im;replace D4:=kb D4 im;replace D5:=kb D5 im;replace DW:=kb DW im;have HB:=ak im;clear im oe oq wj CT FQ d1;refine eW (n:=12) (S:=fun w'=>w'.cell? ⟨b4,0,none⟩=some (.slice (some ⟨gw,0,none⟩) 16 16)∧w'.cell? ⟨w.heap.size,0,none⟩=some (.int .i64 0)∧w'.cell? ⟨w.heap.size,1,none⟩=some (.bool false)∧w'.cell? ⟨w.heap.size,2,none⟩=some (.bool false)∧w'.cell? ⟨w.heap.size,3,none⟩=some (.int .i64 at_)∧w'.cell? ⟨w.heap.size,4,none⟩=some (.int .i64 len)) (ds:=[11]) #[false,false,false,false,false,false,false,false,false,false,false,false] (by kernel_rfl) rfl rfl ⟨cL D4 0,cL DS 0,cL DS 1,cL DS 2,cL DS 3,cL DS 4⟩ (fun hHeld=>?_);replace D1:=kd D1;replace D4:=kd D4;replace D5:=kd D5;replace DW:=kd DW;replace DS:=kd DS;replace HB:=sd HB;generalize W1.drew=W2 at D1 D4 D5 DW DS HB hHeld⊢;refine lq 0 10 hHeld ?_;refine cP 1 11 ?_;refine cP 2 12 ?_;refine cP 3 13 ?_;refine lq 4 14 hHeld ?_;refine cP 6 16 ?_;refine lq 7 17 hHeld ?_;refine cP 8 18 ?_;refine lq 9 19 hHeld ?_;refine kD 5 15 fun K hK=>?_;refine pN Tryz.func101 #[.agg #[.int .i64 0,.bool false,.bool false,.int .i64 at_,.int .i64 len]] ?_;refine(KP at_ len _).mono ?_;rintro e W3 ⟨rfl,hb⟩;refine⟨_,rfl,?_⟩;replace D1:=kb D1 hb;replace D4:=kb D4 hb;replace D5:=kb D5 hb;replace DW:=kb DW hb;replace DS:=kb DS hb;replace HB:=sb HB hb;clear hb hHeld;refine ft hK (fun hHeld=>?_);clear hK K;refine kD 10 20 fun K hK=>?_;refine nQ ?_;have hb:=ab (Below.refl W3.heap.size W3) (.cells #[.int .i64 0,.int .i64 at_,.int .i64 len] 3);have hn:=aI W3 (.cells #[.int .i64 0,.int .i64 at_,.int .i64 len] 3);replace D1:=kb D1 hb;replace D4:=kb D4 hb;replace D5:=kb D5 hb;replace DW:=kb DW hb;replace DS:=kb DS hb;replace HB:=sb HB hb;have DN:=ak hn;clear hb hn hHeld;refine ft hK (fun hHeld=>?_);clear hK K;generalize W3.alloc (.cells #[.int .i64 0,.int .i64 at_,.int .i64 len] 3)=W4 at D1 D4 D5 DW DS HB DN hHeld⊢
 have zP:=run_copy_row (P:=Tryz.prog) W4 68 68 3 3 gw (i*4) (16-i*4) (16-i*4) ⟨W3.heap.size,0,none⟩ 3 3 _ 3 [.int .i64 0,.int .i64 at_,.int .i64 len] Tryz.underlying68 (by kernel_rfl) DW.1 (show(3:Nat)=Nat.min 3 (16-i*4) from(Nat.min_eq_left (by omega:3≤16-i*4)).symm) (by
  intro j v hj;rw[show(⟨W3.heap.size,0,none⟩:Addr).add j=⟨W3.heap.size,j,none⟩ from add_plain _ _,ah DN.1 j];simpa using hj) (by simp [nums];have:=HWL.1;omega) (by simp [Value.oneCell'])
 refine qL (i:=11) (N:=some 21) #[true,true,true,true,true,true,true,true,true,true,true,true] rfl rfl (by kernel_rfl) (by decide) (fun K hK=>?_);refine Dl (w1:= ?_) (v:= ?_) (by rfl) rfl ?_ ?_;rotate_left 2
 ·simp [execOp,resolve,invoke,builtin,Act.eval,zP,Result.andThen];constructor
  ·rfl
  ·rfl
 refine hK.out _ _ ?_;clear hK K zP hHeld;refine gF (by kernel_rfl) ?_;obtain⟨W5,rO⟩:∃X,X=W4.setRow gw ((nums .i64 ws).take (i*4)++(([.int .i64 0,.int .i64 at_,.int .i64 len]:List Value)++(nums .i64 ws).drop (i*4+3))).toArray:=⟨_,rfl⟩;refine(show W4.setRow gw _=W5 from rO.symm)▸?_;have E1:=ak ((show W5.heap[b1]? =W4.heap[b1]? by rw[rO];exact setRow_other _ _ _ _ (dQ D1.1 DW.1 (by decide))).trans D1.1);have E4:=ak ((show W5.heap[b4]? =W4.heap[b4]? by rw[rO];exact setRow_other _ _ _ _ (dQ D4.1 DW.1 (by decide))).trans D4.1);have ES:=ak ((show W5.heap[w.heap.size]? =W4.heap[w.heap.size]? by rw[rO];exact setRow_other _ _ _ _ (dQ DS.1 DW.1 (by decide))).trans DS.1);have E5:=ak ((show W5.heap[b5]? =W4.heap[b5]? by rw[rO];exact setRow_other _ _ _ _ mA).trans D5.1);have EW:=ak (show W5.heap[gw]? =some (.cells (nums .i64 (fc ws (i*4) [0,at_,len])).toArray 3 (0,0)) from by rw[rO,setRow_heap _ _ _ _ _ _ DW.1];simp [fc,nums]);have EB:=ak (show∀w0:World,Below w0.heap.size w0 w→w0.heap.size≤gw→Below w0.heap.size w0 W5 from fun w0 h hg=>by rw[rO];exact below_setRow (bR h HB.1) hg _);clear rO D1 D4 D5 DW DS DN HB;have s0:=cL ES
 go_wp2_with(go_at_call 102;refine(iX.calls 0 false false at_ len true _ rfl).mono ?_;rintro e W6 ⟨rfl,hb⟩;replace E1:=kb E1 hb;replace E4:=kb E4 hb;replace E5:=kb E5 hb;replace EW:=kb EW hb;have EB6:=ak (show∀w0:World,Below w0.heap.size w0 w→w0.heap.size≤gw→Below w0.heap.size w0 W6 from fun w0 h hg=>bR (EB.1 w0 h hg) hb);clear hb s0 ES EB;have y4:=cL E4;have y5:=cL E5;have yf5:=fZ E5;have yfw:=bn EW.1 (i*4+3);have n45:=dQ E4.1 E5.1 (by decide);have avI:=Ne.symm n45;have n4w:=dQ E4.1 EW.1 (by decide);have avJ:=Ne.symm n4w;have nes:=Ne.symm mA;obtain⟨xv,hxv⟩:∃x,W6.cell? ⟨gw,i*4+3,none⟩=some x:=(by rw[ah EW.1];exact⟨_,Array.getElem?_eq_getElem (by simp [nums,fc];have:=HWL.1;omega)⟩))
 go_end0
 refine⟨rfl,aJ (aJ E1.1 (p:=⟨gw,i*4+3,none⟩) (dQ E1.1 EW.1 (by decide)) _) (p:=⟨b5,0,none⟩) (dQ E1.1 E5.1 (by decide)) _,aJ (aJ E4.1 (p:=⟨gw,i*4+3,none⟩) n4w _) (p:=⟨b5,0,none⟩) n45 _,aQ (aJ E5.1 (p:=⟨gw,i*4+3,none⟩) mA _) 0 _ rfl,?_,fun w0 h ud hg=>aH (aH (EB6.1 w0 h hg) hg) ud⟩;refine aJ (p:=⟨b5,0,none⟩) ?_ nes _;have hq:=kf EW.1 (i*4+3) (.int .i64 Tg);rw[hq];simp [RM,nums,List.map_set]
abbrev zs:cU:=⟨0,false,false,0,0⟩
def mG:List cU:=[⟨0,true,true,0,300⟩,zs,zs,zs]
def zk:Nat→List Int
 |0=>List.replicate 16 0
 |1=>[0,0,0,0,0,0,0,0,0,0,0,0,0,0,0,0]
 |2=>[0,0,0,0,0,0,0,0,0,0,0,4,0,0,0,0]
 |3=>[0,0,0,0,0,0,0,3,0,0,0,4,0,0,0,0]
 |_=>[3,0,300,0,0,0,0,3,0,0,0,4,0,0,0,0]
def Iz:Nat→Int
 |0=>0
 |1=>4
 |2=>3
 |_=>2
def OZ:List Int:=(zk 4).flatMap w8
theorem RO:bW.f 10 mG=some true:=by decide+kernel
theorem IA(A:Option Addr)(c:Nat)(w:World)(hC:Kd.C gW w A mG.length mG)(hc:mG.length≤c):
 Calls Tryz.prog 61 #[.slice A 4 c] w fun e w'=>∃g:Nat,e= .returned (.tuple #[.slice (some ⟨g,0,none⟩) 128 128,.int .i64 0])∧w.heap.size≤g∧w'.heap[g]? =some (cS OZ)∧Below w.heap.size w w':=by
 have Nw:∀w,(Instr.makeSlice 68 (.int .i64 16) (.int .i64 16)).run Tryz.prog w= .ok (.slice (some ⟨w.heap.size,0,none⟩) 16 16) (w.alloc (.cells (nums .i64 (zk 0)).toArray 3)):=fun _=>by kernel_rfl
 have HC:=ak hC;obtain⟨W1,fI⟩:∃X,X=w.alloc (.cells #[.slice A 4 c] 24):=⟨_,rfl⟩;have HB:=ak (show Below w.heap.size w W1 by rw[fI];exact ab (Below.refl _ _) _);have D1:=ak (show W1.heap[w.heap.size]? =some (.cells #[.slice A 4 c] 24 (0,0)) by rw[fI];exact aI w _);have xo:=ak fI;clear hC fI;go_enter Tryz.func61,Tryz.ntmps61
 go_wp2_with(go_at_call 40;rw[←xo.1];refine(bW.calls 10 A c mG true _ (Kd.aj HC.1 HB.1) hc RO).mono ?_;rintro e w9 ⟨rfl,hb⟩;replace D1:=kb D1 hb;replace HB:=sb HB hb;clear hb;have d1:=cL D1 0;have l1:=aN D1.1;have l2:=Nat.lt_succ_of_lt l1;have l3:=Nat.lt_succ_of_lt l2)
 clear l2 l3;obtain⟨W2,hW2⟩:∃X,X=((w9.alloc (.cells (nums .i64 (zk 0)).toArray 3)).alloc (.cells #[.slice (some ⟨w9.heap.size,0,none⟩) 16 16] 68)).alloc (.cells #[.int .i64 0] 3):=⟨_,rfl⟩;rw[←hW2];obtain⟨q0,q1,q2,q3,q4⟩:=k5 w9 _ _ _ W2 hW2;have DW:=ak q0;have D4:=ak q1;have D5:=ak q2;replace D1:=kb D1 q4;have HL:=ak l1;replace HB:=sb HB q4;clear hW2 q0 q1 q2 q3 q4 d1 l1 Nw xo;have NE:w9.heap.size+1+1≠w9.heap.size:=by omega
 go_loopw [7] (fun v7 wr=>∃m:Nat,v7= .int .i64 (3-m)∧ae (m≤4)∧ae (Below w.heap.size w wr)∧ae (wr.heap[w.heap.size]? =some (.cells #[.slice A 4 c] 24 (0,0)))∧ae (wr.heap[w9.heap.size+1]? =some (.cells #[.slice (some ⟨w9.heap.size,0,none⟩) 16 16] 68 (0,0)))∧ae (wr.heap[w9.heap.size+1+1]? =some (.cells #[.int .i64 (Iz m)] 3 (0,0)))∧ae (wr.heap[w9.heap.size]? =some (.cells (nums .i64 (zk m)).toArray 3 (0,0)))) (fun v7 _=>(intOf v7+1).toNat)
 case atStart=>exact⟨0,rfl,⟨by omega⟩,HB,D1,D4,D5,DW⟩
 case round=>
  clear HB D1 D4 D5 DW;obtain⟨m,rfl,HM,HB,D1,D4,D5,DW⟩:=hrel;obtain⟨mm,hmm⟩:∃mm,mm=m:=⟨m,rfl⟩
  match m,HM with
  |0,_=>
   go_wp2_with fail
   refine(ye 3 (by decide) A c mG 0 0 (Iz 0) false rfl (by decide) (by rfl) (zk 0) (by rfl) w.heap.size (w9.heap.size+1) (w9.heap.size+1+1) w9.heap.size NE _ D1.1 (Kd.aj HC.1 HB.1) D4.1 D5.1 DW.1).mono ?_;rintro e w5 ⟨rfl,f1,f4,f5,fw,fb⟩;have F1:=ak f1;have F4:=ak f4;have F5:=ak f5;have FW:=ak fw;have FB:=ak (fb w HB.1 (ow HL) (ow HL));clear f1 f4 f5 fw fb;go_wp2
   go_roundw
   case rel=>exact⟨0+1,by go_num,⟨by omega⟩,FB,F1,F4,F5,FW⟩
   case measure=>simp only[intOf];omega
  |1,_=>
   go_wp2_with fail
   refine(ye 2 (by decide) A c mG 0 0 (Iz 1) false rfl (by decide) (by rfl) (zk 1) (by rfl) w.heap.size (w9.heap.size+1) (w9.heap.size+1+1) w9.heap.size NE _ D1.1 (Kd.aj HC.1 HB.1) D4.1 D5.1 DW.1).mono ?_;rintro e w5 ⟨rfl,f1,f4,f5,fw,fb⟩;have F1:=ak f1;have F4:=ak f4;have F5:=ak f5;have FW:=ak fw;have FB:=ak (fb w HB.1 (ow HL) (ow HL));clear f1 f4 f5 fw fb;go_wp2
   go_roundw
   case rel=>exact⟨1+1,by go_num,⟨by omega⟩,FB,F1,F4,F5,FW⟩
   case measure=>simp only[intOf];omega
  |2,_=>
   go_wp2_with fail
   refine(ye 1 (by decide) A c mG 0 0 (Iz 2) false rfl (by decide) (by rfl) (zk 2) (by rfl) w.heap.size (w9.heap.size+1) (w9.heap.size+1+1) w9.heap.size NE _ D1.1 (Kd.aj HC.1 HB.1) D4.1 D5.1 DW.1).mono ?_;rintro e w5 ⟨rfl,f1,f4,f5,fw,fb⟩;have F1:=ak f1;have F4:=ak f4;have F5:=ak f5;have FW:=ak fw;have FB:=ak (fb w HB.1 (ow HL) (ow HL));clear f1 f4 f5 fw fb;go_wp2
   go_roundw
   case rel=>exact⟨2+1,by go_num,⟨by omega⟩,FB,F1,F4,F5,FW⟩
   case measure=>simp only[intOf];omega
  |3,_=>
   go_wp2_with fail
   refine(Ot 0 (by decide) A c mG 0 300 (Iz 3) true rfl (by decide) (by rfl) (zk 3) (by rfl) w.heap.size (w9.heap.size+1) (w9.heap.size+1+1) w9.heap.size NE _ D1.1 (Kd.aj HC.1 HB.1) D4.1 D5.1 DW.1).mono ?_;rintro e w5 ⟨rfl,f1,f4,f5,fw,fb⟩;have F1:=ak f1;have F4:=ak f4;have F5:=ak f5;have FW:=ak fw;have FB:=ak (fb w HB.1 (ow HL) (ow HL));clear f1 f4 f5 fw fb;go_wp2
   go_roundw
   case rel=>exact⟨3+1,by go_num,⟨by omega⟩,FB,F1,F4,F5,FW⟩
   case measure=>simp only[intOf];omega
  |4,_=>
   have y4:=cL D4
   go_wp2_with fail
   refine(tJ (some ⟨w9.heap.size,0,none⟩) 16 (zk 4) _ (BG DW.1 (by decide)) (by decide) (by decide)).mono ?_;rintro e w5 ⟨g,rfl,hg,pL,hb⟩;have FG:=ak pL;have FB:=sb HB hb;have FH:=ak (Nat.le_trans HB.1.size hg);clear hg pL hb y4;go_wp2;go_ret2;exact⟨g,rfl,FH.1,FG.1,FB.1⟩
  |(q+5),h=>exact absurd h.1 (by omega)
end Go.Proofs.YtmhdcgmfbjcndaaGreatDoor.P
