import Derived.Test.YtmhdcgmfbjcndaaGreatDoorB19
import Derived.LoopIn
import Derived.LoopNIn
import Derived.OwnWalkIn
import Derived.RangeFuncBound
import Derived.RangeFuncCalls
import Derived.RangeFuncLeaves
import Derived.RangeFuncNested
import Derived.Shelf.Abstract
import Derived.Shelf.RegionOpen
import Derived.TacticsInMore
set_option linter.unusedVariables false
set_option linter.unusedSimpArgs false
set_option maxRecDepth 100000
set_option maxHeartbeats 8000000
namespace Go.Proofs.YtmhdcgmfbjcndaaGreatDoor.P
open Go.RowKit Go.Shelf Go.Proofs.aa.ag Go.Proofs.aa.ao Go.Proofs.aa.ay
attribute [local go_sem] Oper.semAt_some
abbrev Ck:={o:fl// -9223372036854775808≤o.f0∧o.f0≤9223372036854775807}
def dB(c:Int):Int:=rd [2,3,5,7,10,15] c
def dK(n a len:Int):AL:=
 if a<0 then(0,0,false,0,0,false)
 else if 1≤len∧len≤120 then
  (if 4≤a%32∧(a%32-4)%dB (cG len)=0∧(a%32-4)/dB (cG len)<28/dB (cG len) then(a/32,1,true,cG len,(a%32-4)/dB (cG len),decide (a/32<n))
   else(a/32,1,true,cG len,0,false))
 else if 120<len∧len≤2048 then(a/32,(len+255)/256,false,0,0,decide (a%32=0∧a/32<n∧(len+255)/256≤n-a/32))
 else(a/32,0,false,0,0,false)
theorem jt(n:Int):0≤cG n∧cG n<6:=by
 unfold cG
 repeat' split
 all_goals decide
theorem sg{c:Int}(h:0≤c)(h2:c<6):2≤dB c∧dB c≤15:=by
 have:c=0∨c=1∨c=2∨c=3∨c=4∨c=5:=by omega
 rcases this with rfl|rfl|rfl|rfl|rfl|rfl<;>decide
theorem Nq(n a len:Int)(hn:0≤n)(mD:n≤64)(ha: -9223372036854775808≤a)(ha2:a≤9223372036854775807):kX.f n a len=some (dK n a len):=by
 unfold kX.f dK
 by_cases c1:a<0
 ·rw[if_pos c1,if_pos c1]
 ·rw[if_neg c1,if_neg c1];have hq:wrap64 (Int.tdiv a 32)=a/32:=by rw[Int.tdiv_eq_ediv_of_nonneg (by omega)];unfold wrap64;omega
  have hr:Int.tmod a 32=a%32:=Int.tmod_eq_emod_of_nonneg (by omega);rw[hq,hr];unfold iv.f
  by_cases c2:1≤len∧len≤120
  ·rw[if_pos c2,if_pos c2];simp only[Option.bind_some];rw[if_pos trivial];have hc:=jt len;unfold js.f dB;rw[if_pos (by omega)]
   by_cases c3:4≤a%32∧(a%32-4)%rd [2,3,5,7,10,15] (cG len)=0∧(a%32-4)/rd [2,3,5,7,10,15] (cG len)<28/rd [2,3,5,7,10,15] (cG len)
   ·rw[if_pos ⟨hc,c3⟩,if_pos c3];rfl
   ·rw[if_neg (fun z=>c3 z.2),if_neg c3];rfl
  ·rw[if_neg c2,if_neg c2];simp only[Option.bind_some];rw[if_neg (by decide)];unfold e9.f fH.f;simp only[Option.bind_some]
   by_cases c3:120<len∧len≤2048
   ·rw[if_pos c3,if_neg (by omega),if_neg (by omega)]
    have hw:wrap64 (Int.tdiv (wrap64 (wrap64 (len+256)-1)) 256)=(len+255)/256:=by
     have e1:wrap64 (len+256)=len+256:=by unfold wrap64;omega
     have e2:wrap64 (len+256-1)=len+255:=by unfold wrap64;omega
     rw[e1,e2,Int.tdiv_eq_ediv_of_nonneg (by omega)];unfold wrap64;omega
    rw[hw];simp only[Option.bind_some];rw[if_pos trivial]
    by_cases c4:a%32=0
    ·rw[if_pos c4]
     by_cases c5:a/32<n
     ·rw[if_pos c5];have e3:wrap64 (n-a/32)=n-a/32:=by unfold wrap64;omega
      rw[e3]
      by_cases c6:(len+255)/256≤n-a/32
      ·rw[decide_eq_true c6,decide_eq_true ⟨c4,c5,c6⟩]
      ·rw[decide_eq_false c6,decide_eq_false (fun z=>c6 z.2.2)]
     ·rw[if_neg c5,decide_eq_false (fun z=>c5 z.2.1)]
    ·rw[if_neg c4,decide_eq_false (fun z=>c4 z.1)]
   ·rw[if_neg c3]
    by_cases c4:len≤120
    ·rw[if_pos c4];simp only[Option.bind_some];rw[if_neg (by decide)]
    ·rw[if_neg c4,if_pos (by omega)];simp only[Option.bind_some];rw[if_neg (by decide)]
theorem P9(n a len:Int)(hn:0≤n)(mD:n≤64)(h:(dK n a len).2.2.2.2.2=true):P8 (dK n a len) n.toNat:=by
 unfold dK at h⊢
 by_cases c1:a<0
 ·rw[if_pos c1] at h;cases h
 ·rw[if_neg c1] at h⊢
  by_cases c2:1≤len∧len≤120
  ·rw[if_pos c2] at h⊢;have hc:=jt len;have hw:=sg hc.1 hc.2;generalize cG len=c at h hc hw⊢;generalize dB c=ww at h hw⊢
   by_cases c3:4≤a%32∧(a%32-4)%ww=0∧(a%32-4)/ww<28/ww
   ·rw[if_pos c3] at h⊢;have h1:a/32<n:=of_decide_eq_true h;have h2:0≤(a%32-4)/ww:=Int.ediv_nonneg (by omega) (by omega)
    have h3:28/ww≤28/2:=by
     have:28/ww≤14:=Int.ediv_le_of_le_mul (by omega) (by omega);omega
    exact⟨by show 0≤a/32;omega,by show a/32<_;omega,by show(0:Int)≤1;omega,by show a/32+1≤_;omega,h2,by show(a%32-4)/ww<64;omega,hc.1⟩
   ·rw[if_neg c3] at h;cases h
  ·rw[if_neg c2] at h⊢
   by_cases c3:120<len∧len≤2048
   ·rw[if_pos c3] at h⊢;obtain⟨h1,h2,h3⟩:a%32=0∧a/32<n∧(len+255)/256≤n-a/32:=of_decide_eq_true h;exact⟨by show 0≤a/32;omega,by show a/32<_;omega,by show 0≤(len+255)/256;omega,by show a/32+(len+255)/256≤_;omega,by show(0:Int)≤0;omega,by show(0:Int)<64;omega,by show(0:Int)≤0;omega⟩
   ·rw[if_neg c3] at h;cases h
def Nr(n:Int)(x:Ck):Array Value:= #[Gz (dK n x.1.f0 x.1.f1),.bool (dK n x.1.f0 x.1.f1).2.2.2.2.2]
structure SS (m gl gp:Nat) (W W':World):Prop where
 below:Below m W W'
 l:W'.heap[gl]? =W.heap[gl]?
 p:W'.heap[gp]? =W.heap[gp]?
theorem SS.trans{m gl gp:Nat}{A B C:World}(h:SS m gl gp A B)(k:SS m gl gp B C):SS m gl gp A C:=⟨h.below.trans k.below,k.l.trans h.l,k.p.trans h.p⟩
theorem SS.book{m gl gp:Nat}{w:World}(hm:m≤w.heap.size)(hl:gl<w.heap.size)(hp:gp<w.heap.size)(W:World)(l:Nat)(o o':Obj)(h1:w.heap.size≤l)(h2:W.heap[l]? =some o)(h3:o.isCells=false)(h4:o.isWalk=false):SS m gl gp W (W.putObj l o'):=
 ⟨belowK_b hm W l o o' h1 h2 h3 h4,World.putObj_heap_other (by omega),World.putObj_heap_other (by omega)⟩
theorem Ug{xs:List Ck}{k:Nat}(h:k<xs.length):zv (xs.map (·.1)) (k:Int)=(xs[k]).1:=by
 unfold zv;rw[Int.toNat_natCast,List.getD_eq_getElem?_getD,List.getElem?_map,List.getElem?_eq_getElem h];rfl
theorem Ns(m:Nat)(hm:1≤m)(l gl gp:Nat)(w0:World)(A:Option Addr)(c:Nat)(n:Int)(hn:0≤n)(mD:n≤64)(xs:List Ck)(J Jx:List Ck→World→Prop)(B:Nat)
 (hC:Kd.C uM w0 A xs.length (xs.map (·.1)))
 (hJ:AbidesFrom B J)
 (hY:∀pre x W1,J pre W1→pre.length<xs.length→YieldAt Fence.wide (m-1) Tryz.prog l (Nr n x) W1 fun e W'=>(e= .returned (.bool true)∧J (pre++[x]) W'∧SS w0.heap.size gl gp W1 W')∨(e= .returned (.bool false)∧Jx (pre++[x]) W'))
 (W:World) (hB:Below w0.heap.size w0 W) (Qa:W.heap[gl]? =some (.cells #[.slice A xs.length c] 67 (0,0))) (ZO:W.heap[gp]? =some (.cells #[.int .i64 n] 3 (0,0))) (h0:J [] W):
 CallsIn Fence.wide m Tryz.prog 131 #[.func (.yield l) #[] #[],.pointer (some ⟨gl,0,none⟩),.pointer (some ⟨gp,0,none⟩)] W fun e W'=>(∃v,e= .returned v)∧((∃ys,ys=xs∧J ys W')∨(∃pre,pre<+:xs∧Jx pre W')):=by
 have hu:=Tryz.underlying107;have GC:W.cell? ⟨gl,0,none⟩=some (.slice A xs.length c):=(ah Qa 0).trans rfl;have hxl:xs.length≤9223372036854775807:=hC.2.1;have HC:=ak hC;have HB:=ak hB;have Nt:=ak Qa;have HGP:=ak ZO;have HJ:=ak hJ;have HY:=ak hY;have H0:=ak h0;clear hC hB Qa ZO hJ hY h0;refine callsIn_of_wp Tryz.func131 rfl trivial ?_ rfl;simp only[Tryz.ntmps131,List.size_toArray,List.length_cons,List.length_nil,Nat.reduceAdd,Nat.reduceSub,Array.replicate_succ,Array.replicate_zero,List.push_toArray,List.append_toArray,List.nil_append,List.cons_append];gi_wp2
 gi_loopw [8] (fun v8 wr=>∃k:Nat,v8= .int .i64 k∧k≤xs.length∧ae (J (xs.take k) wr)∧ae (Below w0.heap.size w0 wr)∧ae (wr.heap[gl]? =some (.cells #[.slice A xs.length c] 67 (0,0)))∧ae (wr.heap[gp]? =some (.cells #[.int .i64 n] 3 (0,0)))) (fun v8 _=>xs.length-(intOf v8).toNat)
 case atStart=>exact⟨0,rfl,Nat.zero_le _,H0,HB,Nt,HGP⟩
 case round=>
  obtain⟨k,rfl,hk,HJr,HBr,HLr,HPr⟩:=hrel
  by_cases cX:k<xs.length
  ·obtain⟨ad,e_,oe,oq⟩:=TL (Kd.aj HC.1 HBr.1) (k:Int) (by omega) (by omega);cases e_;rw[Int.toNat_natCast,Ug cX] at oe oq;have hp0:wr.cell? ⟨gp,0,none⟩=some (.int .i64 n):=cL HPr 0;have atE:=aN HPr.1;have HTK:=ak (List.take_succ_eq_append_getElem cX);have ZP:=(xs[k]).2;obtain⟨⟨r1,r2,r3,r4,r5,r6⟩,CC⟩:∃s,dK n (xs[k]).1.f0 (xs[k]).1.f1=s:=⟨_,rfl⟩;have HSP:=ak ((Nq n (xs[k]).1.f0 (xs[k]).1.f1 hn mD ZP.1 ZP.2).trans (congrArg some CC));have HEN:=ak (show Nr n xs[k]= #[.agg #[.int .i64 r1,.int .i64 r2,.bool r3,.int .i64 r4,.int .i64 r5],.bool r6] by unfold Nr Gz;rw[CC]);have xL:=ak (show(xs.take k).length<xs.length by rw[List.length_take];omega);clear CC ZP;generalize hxk:xs[k]=x at oe oq HTK HSP HEN;obtain⟨⟨o0,o1⟩,ho⟩:=x;simp only at oe oq HSP;clear hxk
   gi_wp2_with (refine⟨trivial,?_⟩;gi_at_call 132;refine(callsIn_wide.2 (kX.calls n o0 o1 r1 r2 r3 r4 r5 r6 _ HSP.1)).mono ?_;rintro e w2 ⟨rfl,hb⟩;have Nh:=bR (ab (Below.refl wr.heap.size wr) _) hb;obtain⟨fn,tmps,assign,body,hy,hR⟩:=HY.1 _ _ w2 (HJ.1 _ _ _ none HJr.1 (zY Nh none) (fun r e=>by cases e)) xL.1;rw[HEN.1] at hy;have ZQ:=ak Nh;clear hb Nh)
   refine hR.mono ?_;rintro e W3 (⟨rfl,Nu,Qb⟩|⟨rfl,xM⟩)
   ·gi_wp2
    go_roundw
    case rel=>
     refine⟨k+1,by go_num,cX,⟨by rw[HTK.1];exact Nu⟩,⟨(bR HBr.1 ZQ.1).trans Qb.below⟩,⟨Qb.l.trans ((ZQ.1.block _ (aN HLr.1)).trans HLr.1)⟩,⟨Qb.p.trans ((ZQ.1.block _ (aN HPr.1)).trans HPr.1)⟩⟩
    case measure=>simp [intOf];omega
   ·gi_wp2
    refine bodyPost_ret (results_none rfl _ _ _) rfl ?_;refine⟨⟨_,rfl⟩,.inr ⟨_,?_,xM⟩⟩;rw[←HTK.1];exact List.take_prefix _ _
  ·gi_wp2
   go_end0
   refine⟨⟨_,rfl⟩,.inl ⟨xs,rfl,?_⟩⟩;have h:=HJr.1;rw[List.take_of_length_le (by omega)] at h;exact h
theorem GD(m:Nat)(hm:1≤m)(gl gp:Nat)(w0:World)(A:Option Addr)(c:Nat)(n:Int)(hn:0≤n)(mD:n≤64)(xs:List Ck)(hC:Kd.C uM w0 A xs.length (xs.map (·.1)))(w:World)(hB:Below w0.heap.size w0 w)
 (Qa:w.heap[gl]? =some (.cells #[.slice A xs.length c] 67 (0,0))) (ZO:w.heap[gp]? =some (.cells #[.int .i64 n] 3 (0,0))):
 SeqStopsK Fence.wide m Tryz.prog 131 #[.pointer (some ⟨gl,0,none⟩),.pointer (some ⟨gp,0,none⟩)] (Nr n) (SS w0.heap.size gl gp) (fun ys=>ys=xs) (fun pre=>pre<+:xs) xs.length w:=
 fun l J Jx W hW hJ _ hY h0=>Ns m hm l gl gp w0 A c n hn mD xs J Jx _ hC hJ hY W (hB.trans (hW.mono hB.size)) ((hW.block _ (aN Qa)).trans Qa) ((hW.block _ (aN ZO)).trans ZO) h0
theorem GF(n:Int)(A:Option Addr)(len c:Nat)(w:World):
 Calls Tryz.prog 85 #[.int .i64 n,.slice A len c] w fun e w'=>e= .returned (.func (.func 131) #[] #[.pointer (some ⟨w.heap.size+1,0,none⟩),.pointer (some ⟨w.heap.size,0,none⟩)])∧w'=(w.alloc (.cells #[.int .i64 n] 3)).alloc (.cells #[.slice A len c] 67):=by
 have ON:∀(fn:Fn)(first cap:Array Value)(w:World),(Instr.makeFunc fn first cap).run Tryz.prog w= .ok (.func fn first cap) w:=fun _ _ _ _=>rfl;go_enter Tryz.func85,Tryz.ntmps85;go_wp2;go_ret;exact⟨rfl,rfl⟩
end Go.Proofs.YtmhdcgmfbjcndaaGreatDoor.P
namespace Go.Proofs.YtmhdcgmfbjcndaaGreatDoor.P
open Go.RowKit Go.Shelf Go.Proofs.aa.ag Go.Proofs.aa.ao Go.Proofs.aa.ay
attribute [local go_sem] Oper.semAt_some
def layAll(n:Int):List fl→List Int×List Nat→Option (List Int×List Nat)
 |[],st=>some st
 |o::r,st=>if(dK n o.f0 o.f1).2.2.2.2.2=true then(kp (dK n o.f0 o.f1) st.1 st.2).bind (layAll n r) else none
def laid(n:Int)(l:List fl):Option (List Int×List Nat):=if 0≤n∧n≤64 then layAll n l (List.replicate n.toNat (-1),List.replicate 64 0) else none
theorem lz(n:Int):∀(a b:List fl)(st:List Int×List Nat),layAll n (a++b) st=(layAll n a st).bind (layAll n b)
 |[],b,st=>rfl
 |o::a,b,st=>by
  simp only[List.cons_append,layAll];split
  ·cases kp (dK n o.f0 o.f1) st.1 st.2 with
   |none=>rfl
   |some Ej=>exact lz n a b Ej
  ·rfl
theorem si{s:AL}{ks:List Int}{cs:List Nat}{r:List Int×List Nat}(h:kp s ks cs=some r):r.1.length=ks.length∧r.2.length=cs.length:=by
 unfold kp at h;split at h
 ·split at h
  ·obtain rfl:=Option.some.inj h;exact⟨rfl,List.length_set⟩
  ·split at h
   ·obtain rfl:=Option.some.inj h;exact⟨List.length_set,List.length_set⟩
   ·cases h
 ·split at h
  ·obtain rfl:=Option.some.inj h;exact⟨by rw[List.length_set,jF],rfl⟩
  ·cases h
theorem Qc(n:Int)(A:Option Addr)(len c:Nat)(w:World)(hn:n<0∨64<n):
 Calls Tryz.prog 46 #[.int .i64 n,.slice A len c] w fun e w'=>e= .returned (.tuple #[.pointer none,.bool false])∧Below w.heap.size w w':=by
 rcases hn with hn|hn
 ·refine(callsIn_wide (n:=6)).1 ?_;refine callsIn_of_wp_marks Tryz.func46 rfl trivial ?_ rfl;simp only[Tryz.ntmps46,List.size_toArray,List.length_cons,List.length_nil,Nat.reduceAdd,Nat.reduceSub,Array.replicate_succ,Array.replicate_zero,List.push_toArray,List.append_toArray,List.nil_append,List.cons_append];gi_wp2
  exact⟨.tuple #[.pointer none,.bool false],by simp [results,Tryz.f46,go_sem],rfl,ab (ab (Below.refl _ _) _) _⟩
 ·refine(callsIn_wide (n:=6)).1 ?_;refine callsIn_of_wp_marks Tryz.func46 rfl trivial ?_ rfl;simp only[Tryz.ntmps46,List.size_toArray,List.length_cons,List.length_nil,Nat.reduceAdd,Nat.reduceSub,Array.replicate_succ,Array.replicate_zero,List.push_toArray,List.append_toArray,List.nil_append,List.cons_append];gi_wp2
  exact⟨.tuple #[.pointer none,.bool false],by simp [results,Tryz.f46,go_sem],rfl,ab (ab (Below.refl _ _) _) _⟩
theorem Ek(N:Nat)(hN:N≤64)(w:World):(Instr.makeSlice 68 (.int .i64 N) (.int .i64 N)).run Tryz.prog w= .ok (.slice (some ⟨w.heap.size,0,none⟩) N N) (w.alloc (.cells (kB (Value.int .i64) (List.replicate N 0)).toArray 3)):=by
 obtain⟨i0,td,yY,qC,uh⟩:=info_parts pT;have h:=run_make (P:=Tryz.prog) (w:=w) 68 3 i0 (.int .i64 0) Tryz.underlying68 td yY .i64 .i64 (N:Int) (N:Int) (by omega) (by omega) (by rw[uh];omega) (by omega);simp only[Int.toNat_natCast] at h;rw[h,qC,Nat.mul_one]
 congr 3
 apply Array.ext';rw[List.toList_toArray];unfold kB madeCells;simp only[Value.cells,List.map_replicate,Array.toList_ofFn,List.size_toArray,List.length_singleton,Nat.mod_one];apply List.ext_getElem
 ·simp
 ·intro i h1 h2;simp
section
variable {F:Fence}{n:Nat}{P:Program}{ops:Array Oper}{rest:List Oper}{o:Oper}{a:Act}{w:World}{Q:Exit→Act→World→Prop}
theorem pd{N:Tmp}(_hN:o.dst=some N)(h:wpListIn F n P ops Q (o::rest) a w):wpListIn F n P ops Q (o::rest) a w:=h
theorem zh(hg:o.guard=none)(t:TypeId)(j:Nat)(x:Operand)(ho:o.op= .build t #[(j,x)])(v V:Value)(hx:a.eval x=v)(hV:(Instr.build t #[(j,v)]).run P w= .ok V w)
 (h:wpListIn F n P ops Q rest (a.put o.dst V) w):wpListIn F n P ops Q (o::rest) a w:=by
 refine wpListIn_plain hg fun K hK=>?_;unfold Oper.wpIn;refine⟨by simp [Oper.about,ho],?_⟩;rw[Oper.semAt_plain F _ _ (by rw[ho];intro c hc;cases hc)];have e:(#[(j,x)]:Array (Nat×Operand)).map (fun(i,x)=>(i,a.eval x))= #[(j,v)]:=by simp [hx]
 unfold execOp;simp only[ho,Sem.run_bind,e,hV,Result.andThen_ok];exact hK _ _ h
end
theorem El:∃yv:Option Addr→Nat→Nat→Array Value,(∀a n c,yv a n c=(Value.slice a n c::(List.replicate 64 0).map fun(c:Nat)=>Value.int .u64 (c:Int)).toArray)∧
 (∀a n c(w:World),(Instr.build 114 #[(0,.slice a n c)]).run Tryz.prog w= .ok (.agg (yv a n c)) w)∧(∀a n c,yv a n c≠#[])∧(∀a n c,(yv a n c)[0]? =some (.slice a n c)):=by
 refine⟨fun a n c=>(Value.slice a n c::(List.replicate 64 0).map fun(c:Nat)=>Value.int .u64 (c:Int)).toArray,fun _ _ _=>rfl,fun a n c w=>by kernel_rfl,fun a n c h=>?_,fun a n c=>rfl⟩;have:=congrArg Array.size h;simp at this
theorem GG(w:World)(o1 o2 o3 o4 o5:Obj):∀W,W=((((w.alloc o1).alloc o2).alloc o3).alloc o4).alloc o5→
 W.heap[w.heap.size]? =some o1∧W.heap[w.heap.size+1]? =some o2∧W.heap[w.heap.size+1+1]? =some o3∧W.heap[w.heap.size+1+1+1]? =some o4∧W.heap[w.heap.size+1+1+1+1]? =some o5∧Below w.heap.size w W:=by
 rintro W rfl;have h1:=aI w o1;have h2:=aI (w.alloc o1) o2;have h3:=aI ((w.alloc o1).alloc o2) o3;have h4:=aI (((w.alloc o1).alloc o2).alloc o3) o4;have h5:=aI ((((w.alloc o1).alloc o2).alloc o3).alloc o4) o5;simp only[World.size_alloc] at h2 h3 h4 h5;exact⟨ar (ar (ar (ar h1 _) _) _) _,ar (ar (ar h2 _) _) _,ar (ar h3 _) _,ar h4 _,h5,ab (ab (ab (ab (ab (Below.refl _ _) _) _) _) _) _⟩
def initK(N k:Nat):List Int:=List.replicate k (-1)++List.replicate (N-k) 0
theorem Nv{N k:Nat}(h:k<N):(initK N k).set k (-1)=initK N (k+1):=by
 unfold initK;rw[List.set_append_right _ _ (by rw[List.length_replicate];exact Nat.le_refl _),List.length_replicate,Nat.sub_self,show N-k=(N-(k+1))+1 by omega,List.replicate_succ,List.set_cons_zero,List.replicate_succ'];simp
theorem oC{N k:Nat}(h:k≤N):(initK N k).length=N:=by
 unfold initK;rw[List.length_append,List.length_replicate,List.length_replicate];omega
def JZ(s:AL):Array Value:= #[.int .i64 s.1,.int .i64 s.2.1,.bool s.2.2.1,.int .i64 s.2.2.2.1,.int .i64 s.2.2.2.2.1]
theorem we.CO{gy gk B:Nat}{W W':World}(h:we gy gk W W')(h1:gy<B)(h2:gk<B):KeepsFrom B W W':=
 ⟨h.size,fun k o hB hk _=>(h.block k (Array.getElem?_eq_some_iff.1 hk).1 (by omega) (by omega)).trans hk⟩
theorem LD{W:World}{g:Nat}(h:W.heap[g]? =some (.cells #[.pointer none] 108 (0,0))):(W.setCell ⟨g,0,none⟩ (.pointer none)).heap[g]? =some (.cells #[.pointer none] 108 (0,0)):=aQ h 0 _ rfl
theorem AM{W:World}{g:Nat}{b:Bool}(h:W.heap[g]? =some (.cells #[.bool b] 4 (0,0)))(b':Bool):(W.setCell ⟨g,0,none⟩ (.bool b')).heap[g]? =some (.cells #[.bool b'] 4 (0,0)):=aQ h 0 _ rfl
def LaidIn(w:World)(N m:Nat)(pre:List Ck)(W:World):Prop:=
 m≤W.heap.size∧∃st,layAll N (pre.map (·.1)) (List.replicate N (-1),List.replicate 64 0)=some st∧Lay W (w.heap.size+1+1+1) (w.heap.size+1+1) st.1 st.2∧st.1.length=N∧
  W.heap[w.heap.size]? =some (.cells #[.pointer none] 108 (0,0))∧W.heap[w.heap.size+1]? =some (.cells #[.bool false] 4 (0,0))∧W.heap[w.heap.size+1+1+1+1]? =some (.cells #[.pointer (some ⟨w.heap.size+1+1+1,0,none⟩)] 108 (0,0))∧Below w.heap.size w W
def LaidOut(w:World)(N:Nat)(c:Code)(pre:List Ck)(W:World):Prop:=
 c= .ret∧layAll N (pre.map (·.1)) (List.replicate N (-1),List.replicate 64 0)=none∧
  W.heap[w.heap.size]? =some (.cells #[.pointer none] 108 (0,0))∧W.heap[w.heap.size+1]? =some (.cells #[.bool false] 4 (0,0))∧Below w.heap.size w W
theorem J0{w:World}{N m B:Nat}(hB:w.heap.size≤B):OwnFrom B (LaidIn w N m):=by
 rintro s X Y row ⟨hm,st,h1,h2,h3,h4,h5,h6,h7⟩ hg hr;have hk:=fun{k:Nat}{o:Obj}(h:X.heap[k]? =some o)(hc:o.isCells=true)=>grownBy_keeps_cells hg (fun r e=>(hr r e).2) h hc;exact⟨Nat.le_trans hm hg.size,st,h1,h2.same (hk h2.y rfl) (hk h2.k rfl),h3,(hk h4 rfl).trans h4,(hk h5 rfl).trans h5,(hk h6 rfl).trans h6,h7.grown hg h7.size (fun k e=>Nat.le_trans hB (hr k e).1)⟩
theorem GH{w:World}{N B:Nat}(hB:w.heap.size≤B)(c:Code):OwnFrom B (LaidOut w N c):=by
 rintro s X Y row ⟨h1,h2,h4,h5,h7⟩ hg hr;have hk:=fun{k:Nat}{o:Obj}(h:X.heap[k]? =some o)(hc:o.isCells=true)=>grownBy_keeps_cells hg (fun r e=>(hr r e).2) h hc;exact⟨h1,h2,(hk h4 rfl).trans h4,(hk h5 rfl).trans h5,h7.grown hg h7.size (fun k e=>Nat.le_trans hB (hr k e).1)⟩
theorem xJ(N:Nat)(A:Option Addr)(c:Nat)(xs:List Ck)(w:World)(hN:N≤64)(hC:Kd.C uM w A xs.length (xs.map (·.1))):
 Calls Tryz.prog 46 #[.int .i64 N,.slice A xs.length c] w fun e w'=>
  (laid N (xs.map (·.1))=none∧e= .returned (.tuple #[.pointer none,.bool false])∧Below w.heap.size w w')∨
  ∃(gy gk:Nat)(st:List Int×List Nat),laid N (xs.map (·.1))=some st∧e= .returned (.tuple #[.pointer (some ⟨gy,0,none⟩),.bool true])∧Lay w' gy gk st.1 st.2∧st.1.length=N∧w.heap.size≤gy∧w.heap.size≤gk∧Below w.heap.size w w':=by
 obtain⟨yv,hyv,Qd,alw,ZR⟩:=El;have HYV:=ak hyv;have HC:=ak hC;have Nw:=Ek N hN;clear hyv hC;refine(callsIn_wide (n:=6)).1 ?_;refine callsIn_of_wp_marks Tryz.func46 rfl trivial ?_ rfl;simp only[Tryz.ntmps46,List.size_toArray,List.length_cons,List.length_nil,Nat.reduceAdd,Nat.reduceSub,Array.replicate_succ,Array.replicate_zero,List.push_toArray,List.append_toArray,List.nil_append,List.cons_append]
 gi_wp2_with ((with_reducible refine pd (N:=18) rfl ?_);refine zh rfl 114 0 (.tmp 17) rfl _ (.agg (yv (some ⟨w.heap.size+1+1,0,none⟩) N N)) rfl (Qd _ _ _ _) ?_)
 obtain⟨W5,rO⟩:∃W,W=((((w.alloc (.cells #[.pointer none] 108)).alloc (.cells #[.bool false] 4)).alloc (.cells (kB (Value.int .i64) (List.replicate N 0)).toArray 3)).alloc (.cells (yv (some ⟨w.heap.size+1+1,0,none⟩) N N) 114)).alloc (.cells #[.pointer (some ⟨w.heap.size+1+1+1,0,none⟩)] 108):=⟨_,rfl⟩;obtain⟨q1,q2,q3,q4,q5,q6⟩:=GG w _ _ _ _ _ W5 rO;rw[←rO];have HL0:=ak (show Lay W5 (w.heap.size+1+1+1) (w.heap.size+1+1) (initK N 0) (List.replicate 64 0) from⟨by rw[oC (Nat.zero_le _)];rw[HYV.1] at q4;exact q4,by unfold initK;exact q3,by omega,by rw[List.length_replicate],by rw[oC (Nat.zero_le _)];exact hN,fun c hc=>by rw[List.eq_of_mem_replicate hc];decide⟩);have HQ:=ak (show W5.heap[w.heap.size]? =some (.cells #[.pointer none] 108 (0,0))∧W5.heap[w.heap.size+1]? =some (.cells #[.bool false] 4 (0,0))∧W5.heap[w.heap.size+1+1+1+1]? =some (.cells #[.pointer (some ⟨w.heap.size+1+1+1,0,none⟩)] 108 (0,0)) from⟨q1,q2,q5⟩);have xN:=ak q6;clear q1 q2 q3 q4 q5 q6 rO Qd alw ZR HYV Nw
 gi_loopw [25] (fun v25 wr=>∃k:Nat,v25= .int .i64 k∧k≤N∧ae (Lay wr (w.heap.size+1+1+1) (w.heap.size+1+1) (initK N k) (List.replicate 64 0))∧ae (wr.heap[w.heap.size]? =some (.cells #[.pointer none] 108 (0,0))∧wr.heap[w.heap.size+1]? =some (.cells #[.bool false] 4 (0,0))∧wr.heap[w.heap.size+1+1+1+1]? =some (.cells #[.pointer (some ⟨w.heap.size+1+1+1,0,none⟩)] 108 (0,0)))∧ae (Below w.heap.size w wr)) (fun v25 _=>N-(intOf v25).toNat)
 case atStart=>exact⟨0,rfl,Nat.zero_le _,HL0,HQ,xN⟩
 case round=>
  obtain⟨k,rfl,hk,LC,Xb,HBk⟩:=hrel
  by_cases cX:k<N
  ·have h0:=LC.1.head;rw[oC hk] at h0;have h2:=LC.1.kind k (by rw[oC hk];exact cX);have hf:=LC.1.fk k;have h6:wr.cell? ⟨w.heap.size+1+1+1+1,0,none⟩=some (.pointer (some ⟨w.heap.size+1+1+1,0,none⟩)):=(ah Xb.1.2.2 0).trans rfl;generalize(initK N k).getD k 0=kk at h2;gi_wp2
   go_roundw
   case rel=>
    refine⟨k+1,by go_num,cX,⟨?_⟩,⟨?_,?_,?_⟩,⟨HBk.1.setCell (by simp only;omega) _⟩⟩
    ·have h:=LC.1.setKind k (-1);rw[Nv cX] at h;exact h
    ·exact aJ Xb.1.1 (by simp only;omega) _
    ·exact aJ Xb.1.2.1 (by simp only;omega) _
    ·exact aJ Xb.1.2.2 (by simp only;omega) _
   case measure=>simp [intOf];omega
  ·have hkN:k=N:=by omega
   have Uh:=ak (show Lay wr (w.heap.size+1+1+1) (w.heap.size+1+1) (List.replicate N (-1)) (List.replicate 64 0) by have h:=LC.1;rw[hkN] at h;unfold initK at h;rw[Nat.sub_self,List.replicate_zero,List.append_nil] at h;exact h);clear LC hkN
   gi_wp2_with (refine⟨trivial,?_⟩;gi_at_call 85;refine(callsIn_wide.2 (GF _ _ _ _ _)).mono ?_;rintro e w' ⟨rfl,rfl⟩)
   obtain⟨W0,pK⟩:∃W0,(wr.alloc (.cells #[.int .i64 (N:Int)] 3)).alloc (.cells #[.slice A xs.length c] 67)=W0:=⟨_,rfl⟩;have bP:W0.heap[wr.heap.size]? =some (.cells #[.int .i64 (N:Int)] 3 (0,0)):=by rw[←pK];exact ar (aI _ _) _
   have bL:W0.heap[wr.heap.size+1]? =some (.cells #[.slice A xs.length c] 67 (0,0)):=by rw[←pK];have h:=aI (wr.alloc (.cells #[.int .i64 (N:Int)] 3)) (.cells #[.slice A xs.length c] 67);rw[World.size_alloc] at h;exact h
   have hbW:Below wr.heap.size wr W0:=by rw[←pK];exact ab (ab (Below.refl _ _) _) _
   have oL:W0.heap.size=wr.heap.size+2:=by rw[←pK];simp
   have ju:Below w.heap.size w W0:=bR HBk.1 hbW;have hL0:=Uh.1.below hbW;have q1:=fe Xb.1.1 hbW;have q2:=fe Xb.1.2.1 hbW;have q3:=fe Xb.1.2.2 hbW;have hws:=aN Xb.1.2.2;rw[pK];clear pK
   refine wpIn_rangeFunc_ownH (w:=W0) rfl (by omega) (gf:=131) (lb:= #[.pointer (some ⟨wr.heap.size+1,0,none⟩),.pointer (some ⟨wr.heap.size,0,none⟩)]) rfl trivial (enters_of Tryz.func131 (by kernel_rfl) rfl)
    (GD (6-1) (by omega) (wr.heap.size+1) wr.heap.size w A c N (by omega) (by omega) xs HC.1 W0 ju bL bP) SS.trans (SS.book ju.size (by omega) (by omega)) (Below.refl _ _) (fun _=>rfl)
    (LaidIn w N W0.heap.size)
    (LaidOut w N)
    (J0 (by omega)) (GH (by omega))
    ⟨Nat.le_refl _,(List.replicate N (-1),List.replicate 64 0),by rw[List.map_nil];rfl,hL0,List.length_replicate,q1,q2,q3,ju⟩
    (fun x a' W=>∃Bx,W0.heap.size≤Bx∧W.heap[Bx]? =some (.cells (JZ (dK N x.1.f0 x.1.f1)) 169 (0,0))∧a'={tmps:= #[.int .i64 N,.slice A xs.length c,undef,undef,.pointer (some ⟨w.heap.size,0,none⟩),.pointer (some ⟨w.heap.size+1,0,none⟩),.pointer (some ⟨w.heap.size+1+1+1+1,0,none⟩),u7,.pointer (some ⟨Bx,0,none⟩),.bool (dK N x.1.f0 x.1.f1).2.2.2.2.2,.int .i64 N,.bool (decide ((N:Int)<0)),.bool (decide ((N:Int)<0)),.int .i64 N,.bool (decide (64<(N:Int))),.bool (decide ((N:Int)<0)||decide (64<(N:Int))),.int .i64 N,.slice (some ⟨w.heap.size+1+1,0,none⟩) N N,.agg (yv (some ⟨w.heap.size+1+1,0,none⟩) N N),.pointer (some ⟨w.heap.size+1+1+1,0,none⟩),.pointer (some ⟨w.heap.size+1+1+1,0,none⟩),.pointer (some ⟨w.heap.size+1+1+1,0,none⟩),.pointer (some ⟨w.heap.size+1+1+1,0,none⟩),.slice (some ⟨w.heap.size+1+1,0,none⟩) N N,.int .i64 N,.int .i64 k,.bool false,u27,u28,u29,u30,u31,u32,u33,u34,.int .i64 N,.slice A xs.length c,.func (.func 131) #[] #[.pointer (some ⟨wr.heap.size+1,0,none⟩),.pointer (some ⟨wr.heap.size,0,none⟩)],Gz (dK N x.1.f0 x.1.f1),.bool (dK N x.1.f0 x.1.f1).2.2.2.2.2,undef,undef,undef,undef,undef,undef,undef,undef,undef],defers:=[]})
    (fun x a' _ X Y row hs hg hr=>by obtain⟨Bx,e1,e2,e3⟩:=hs;exact⟨Bx,e1,(grownBy_keeps_cells hg (fun r e=>(hr r e).2) e2 rfl).trans e2,e3⟩)
    ?assign ?body ?done ?stop
   case assign=>
    rintro l pre x W K hI hK;obtain⟨⟨r1,r2,r3,r4,r5,r6⟩,CC⟩:∃s,dK N x.1.f0 x.1.f1=s:=⟨_,rfl⟩;have Xc:Nr N x= #[.agg #[.int .i64 r1,.int .i64 r2,.bool r3,.int .i64 r4,.int .i64 r5],.bool r6]:=by unfold Nr Gz;rw[CC]
    rw[Xc];simp only[CC,Gz,JZ] at hK;have HK:=ak hK;have HI:=ak hI;clear hK hI Xc CC;gi_wp2
    obtain⟨hm,st,i1,i2,i3,i4,i5,i6,i7⟩:=HI.1;refine HK.1 _ _ ((KeepsOthers.alloc _ _).from _) ⟨(Below.refl _ W).alloc i7.size _,Below.heap_alloc _ _ _ (by omega),Below.heap_alloc _ _ _ (by omega)⟩ ⟨?_,st,i1,i2.alloc _,i3,ar i4 _,ar i5 _,ar i6 _,i7.alloc i7.size _⟩ ⟨W.heap.size,hm,aI _ _,rfl⟩;rw[World.size_alloc];omega
   case body=>
    rintro l pre x a' W hl ⟨rc,hrc⟩ ⟨hm,st,i1,i2,i3,i4,i5,i6,i7⟩ ⟨Bx,hBx,bX,rfl⟩ cX;obtain⟨ks,cs⟩:=st;simp only at i2 i3;obtain⟨⟨r1,r2,r3,r4,r5,r6⟩,CC⟩:∃s,dK N x.1.f0 x.1.f1=s:=⟨_,rfl⟩;rw[CC] at bX⊢;simp only[Gz,JZ] at bX⊢;have c6:W.cell? ⟨w.heap.size+1+1+1+1,0,none⟩=some (.pointer (some ⟨w.heap.size+1+1+1,0,none⟩)):=(ah i6 0).trans rfl;have c4:W.cell? ⟨w.heap.size,0,none⟩=some (.pointer none):=(ah i4 0).trans rfl;have f4:=bn i4 0;have c5:W.cell? ⟨w.heap.size+1,0,none⟩=some (.bool false):=(ah i5 0).trans rfl;have f5:=bn i5 0;have x0:W.cell? ⟨Bx,0,none⟩=some (.int .i64 r1):=(ah bX 0).trans rfl;have x1:W.cell? ⟨Bx,1,none⟩=some (.int .i64 r2):=(ah bX 1).trans rfl;have x2:W.cell? ⟨Bx,2,none⟩=some (.bool r3):=(ah bX 2).trans rfl;have x3:W.cell? ⟨Bx,3,none⟩=some (.int .i64 r4):=(ah bX 3).trans rfl;have x4:W.cell? ⟨Bx,4,none⟩=some (.int .i64 r5):=(ah bX 4).trans rfl;have I4:=ak i4;have I5:=ak i5;have I6:=ak i6;have I7:=ak i7;have HL:=ak i2;clear i4 i5 i6 i7 i2 bX hrc;cases r6 with
    |false=>
     have HN1:=ak (show layAll N ((pre++[x]).map (·.1)) (List.replicate N (-1),List.replicate 64 0)=none by rw[List.map_append,lz,i1];simp only[Option.bind_some,List.map_cons,List.map_nil,layAll,CC];rfl);gi_wp2
     refine⟨trivial,?_⟩;gi_wp2
     exact⟨((KeepsOthers.setCell _ _ _).trans (KeepsOthers.setCell _ _ _)).from _,rfl,HN1.1,aJ (LD I4.1) (by simp only;omega) _,AM (aJ I5.1 (by simp only;omega) _) false,(I7.1.setCell (by simp only;omega) _).setCell (by simp only;omega) _⟩
    |true=>
     have Tt:=P9 N x.1.f0 x.1.f1 (by omega) (by omega) (by rw[CC]);rw[CC,Int.toNat_natCast,←i3] at Tt;have rk:=Np _ _ ks cs (r1,r2,r3,r4,r5,true) W HL.1 Tt
     have CP:layAll N ((pre++[x]).map (·.1)) (List.replicate N (-1),List.replicate 64 0)=kp (r1,r2,r3,r4,r5,true) ks cs:=by
      rw[List.map_append,lz,i1];simp only[Option.bind_some,List.map_cons,List.map_nil,layAll,CC,if_true];cases kp (r1,r2,r3,r4,r5,true) ks cs<;>rfl
     clear Tt CC;have hlen:=HL.1.lk;cases hlo:kp (r1,r2,r3,r4,r5,true) ks cs with
     |none=>
      rw[hlo] at rk CP;have tl:=ak rk;have Qe:=ak CP;clear rk CP hlo
      gi_wp2_with (refine⟨trivial,?_⟩;gi_at_call 86;refine(CallsIn.inRound l (callsIn_wide.2 tl.1)).mono ?_;rintro e w2 ⟨rfl,_,J1⟩;have d4:=(J1.block _ (aN I4.1) (by omega) (by omega)).trans I4.1;have d5:=(J1.block _ (aN I5.1) (by omega) (by omega)).trans I5.1;have c4':w2.cell? ⟨w.heap.size,0,none⟩=some (.pointer none):=(ah d4 0).trans rfl;have f4':=bn d4 0;have c5':w2.cell? ⟨w.heap.size+1,0,none⟩=some (.bool false):=(ah d5 0).trans rfl;have f5':=bn d5 0;have D4:=ak d4;have D5:=ak d5;have HT:=ak J1;clear d4 d5 J1)
      exact⟨(HT.1.CO (by omega) (by omega)).trans (((KeepsOthers.setCell _ _ _).trans (KeepsOthers.setCell _ _ _)).from _),rfl,Qe.1,aJ (LD D4.1) (by simp only;omega) _,AM (aJ D5.1 (by simp only;omega) _) false,((I7.1.trans (HT.1.below I7.1.size (by omega) (by omega))).setCell (by simp only;omega) _).setCell (by simp only;omega) _⟩
     |some Ej=>
      rw[hlo] at rk CP;have tl:=ak rk;have Qe:=ak CP;have Pm:=(si hlo).1;clear rk CP hlo
      gi_wp2_with (refine⟨trivial,?_⟩;gi_at_call 86;refine(CallsIn.inRound l (callsIn_wide.2 tl.1)).mono ?_;rintro e w2 ⟨rfl,aec,J1⟩;have aly:=ak (aec _ rfl);have HT:=ak J1;clear aec J1)
      have iq:Below w.heap.size W w2:=HT.1.below I7.1.size (by omega) (by omega);exact⟨HT.1.CO (by omega) (by omega),⟨iq,HT.1.block _ (by omega) (by omega) (by omega),HT.1.block _ (by omega) (by omega) (by omega)⟩,Nat.le_trans hm HT.1.size,Ej,Qe.1,aly.1,Pm.trans i3,(HT.1.block _ (aN I4.1) (by omega) (by omega)).trans I4.1,(HT.1.block _ (aN I5.1) (by omega) (by omega)).trans I5.1,(HT.1.block _ (aN I6.1) (by omega) (by omega)).trans I6.1,I7.1.trans iq⟩
   case done=>
    rintro D ys W hD rfl ⟨hm,st,i1,i2,i3,i4,i5,i6,i7⟩ hK;have c6:W.cell? ⟨w.heap.size+1+1+1+1,0,none⟩=some (.pointer (some ⟨w.heap.size+1+1+1,0,none⟩)):=(ah i6 0).trans rfl;have c4:W.cell? ⟨w.heap.size,0,none⟩=some (.pointer none):=(ah i4 0).trans rfl;have f4:=bn i4 0;have c5:W.cell? ⟨w.heap.size+1,0,none⟩=some (.bool false):=(ah i5 0).trans rfl;have f5:=bn i5 0;have I1:=ak i1;have I2:=ak i2;have I4:=ak i4;have I5:=ak i5;have I7:=ak i7;have HK:=ak hK;clear i1 i2 i4 i5 i6 i7 hK;gi_wp2
    have e4:((W.setCell ⟨w.heap.size,0,none⟩ (.pointer (some ⟨w.heap.size+1+1+1,0,none⟩))).setCell ⟨w.heap.size+1,0,none⟩ (.bool true)).heap[w.heap.size]? =some (.cells #[.pointer (some ⟨w.heap.size+1+1+1,0,none⟩)] 108 (0,0)):=aJ (aQ I4.1 0 _ rfl) (by simp only;omega) _;have e5:((W.setCell ⟨w.heap.size,0,none⟩ (.pointer (some ⟨w.heap.size+1+1+1,0,none⟩))).setCell ⟨w.heap.size+1,0,none⟩ (.bool true)).heap[w.heap.size+1]? =some (.cells #[.bool true] 4 (0,0)):=AM (aJ I5.1 (by simp only;omega) _) true;have eK:=((KeepsOthers.setCell W ⟨w.heap.size,0,none⟩ (.pointer (some ⟨w.heap.size+1+1+1,0,none⟩))).trans (KeepsOthers.setCell _ ⟨w.heap.size+1,0,none⟩ (.bool true))).same D _ HK.1 rfl;have eL:Lay ((W.setCell ⟨w.heap.size,0,none⟩ (.pointer (some ⟨w.heap.size+1+1+1,0,none⟩))).setCell ⟨w.heap.size+1,0,none⟩ (.bool true)) (w.heap.size+1+1+1) (w.heap.size+1+1) st.1 st.2:=I2.1.same ((Below.heap_setCell _ _ _ _ (by simp only;omega)).trans (Below.heap_setCell _ _ _ _ (by simp only;omega))) ((Below.heap_setCell _ _ _ _ (by simp only;omega)).trans (Below.heap_setCell _ _ _ _ (by simp only;omega)));have eB:Below w.heap.size w ((W.setCell ⟨w.heap.size,0,none⟩ (.pointer (some ⟨w.heap.size+1+1+1,0,none⟩))).setCell ⟨w.heap.size+1,0,none⟩ (.bool true)):=(I7.1.setCell (by simp only;omega) _).setCell (by simp only;omega) _;refine⟨by simp,.inl ⟨_,_,rfl,run_takeDeferred eK,?_⟩⟩;generalize(W.setCell ⟨w.heap.size,0,none⟩ (.pointer (some ⟨w.heap.size+1+1+1,0,none⟩))).setCell ⟨w.heap.size+1,0,none⟩ (.bool true)=W2 at e4 e5 eK eL eB⊢;have g4:(W2.putObj D (.deferred none)).cell? ⟨w.heap.size,0,none⟩=some (.pointer (some ⟨w.heap.size+1+1+1,0,none⟩)):=(ah ((World.putObj_heap_other (by omega)).trans e4) 0).trans rfl;have g5:(W2.putObj D (.deferred none)).cell? ⟨w.heap.size+1,0,none⟩=some (.bool true):=(ah ((World.putObj_heap_other (by omega)).trans e5) 0).trans rfl;refine⟨.tuple #[.pointer (some ⟨w.heap.size+1+1+1,0,none⟩),.bool true],?_,.inr ⟨_,_,st,?_,rfl,eL.same (World.putObj_heap_other (by omega)) (World.putObj_heap_other (by omega)),i3,by omega,by omega,eB.trans (belowK_b (w:=w) (Nat.le_refl _) W2 D _ _ (by omega) eK rfl rfl)⟩⟩
    ·simp [results,Tryz.f46,go_sem,g4,g5]
    ·unfold laid;rw[if_pos (by omega),Int.toNat_natCast];exact I1.1
   case stop=>
    rintro D cx pre W hD J4 ⟨rfl,h2,i4,i5,i7⟩ hK;have H2:=ak h2;have I4:=ak i4;have I5:=ak i5;have I7:=ak i7;have HK:=ak hK;have HP:=ak J4;clear h2 i4 i5 i7 hK J4;gi_wp2
    refine⟨by simp,.inl ⟨_,_,rfl,run_takeDeferred HK.1,?_⟩⟩;have g4:(W.putObj D (.deferred none)).cell? ⟨w.heap.size,0,none⟩=some (.pointer none):=(ah ((World.putObj_heap_other (by omega)).trans I4.1) 0).trans rfl;have g5:(W.putObj D (.deferred none)).cell? ⟨w.heap.size+1,0,none⟩=some (.bool false):=(ah ((World.putObj_heap_other (by omega)).trans I5.1) 0).trans rfl;refine⟨.tuple #[.pointer none,.bool false],?_,.inl ⟨?_,rfl,I7.1.trans (belowK_b (w:=w) (Nat.le_refl _) W D _ _ (by omega) HK.1 rfl rfl)⟩⟩
    ·simp [results,Tryz.f46,go_sem,g4,g5]
    ·unfold laid;rw[if_pos (by omega),Int.toNat_natCast];obtain⟨t,ht⟩:=HP.1;rw[←ht,List.map_append,lz,H2.1];rfl
end Go.Proofs.YtmhdcgmfbjcndaaGreatDoor.P
