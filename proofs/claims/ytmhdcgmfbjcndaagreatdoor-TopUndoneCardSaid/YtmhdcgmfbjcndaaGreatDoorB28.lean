import Derived.Test.YtmhdcgmfbjcndaaGreatDoorB27
import Derived.RangeFuncFrom
set_option linter.unusedVariables false
set_option linter.unusedSimpArgs false
set_option maxRecDepth 100000
set_option maxHeartbeats 8000000
namespace Go.Proofs.YtmhdcgmfbjcndaaGreatDoor.P
open Go.RowKit Go.Shelf Go.Proofs.aa.ag Go.Proofs.aa.ao Go.Proofs.aa.ay
attribute [local go_sem] Oper.semAt_some
def gO(m:Int):List Bool:=if m=1 then[false] else if m=2 then[true] else if m=3 then[true,false] else if m=4 then[false,true] else[]
def Hn(x:Bool):Array Value:= #[.bool x]
def KpT(_ _:World):Prop:=True
theorem Bg(m:Nat)(hm:2≤m)(gm:Nat)(mode:Int)(w:World)(SZ:w.heap[gm]? =some (.cells #[.int .i64 mode] 3 (0,0))):
 SeqStopsK Fence.wide m Tryz.prog 189 #[.pointer (some ⟨gm,0,none⟩)] Hn KpT (fun ys=>ys=gO mode) (fun pre=>pre<+:gO mode) (gO mode).length w:=by
 intro l J Jx W hW hJ _ hY h0;have GC:W.cell? ⟨gm,0,none⟩=some (.int .i64 mode):=(ah ((hW.block _ (aN SZ)).trans SZ) 0).trans rfl;have HY:=ak hY;have HJ:=ak hJ;have H0:=ak h0;clear hY hJ h0 SZ hW;refine callsIn_of_wp Tryz.func189 rfl trivial ?_ rfl;simp only[Tryz.ntmps189,List.size_toArray,List.length_cons,List.length_nil,Nat.reduceAdd,Nat.reduceSub,Array.replicate_succ,Array.replicate_zero,List.push_toArray,List.append_toArray,List.nil_append,List.cons_append]
 by_cases c1:mode=1
 ·have hf:gO mode=[false]:=by unfold gO;rw[if_pos c1]
  rw[hf] at HY⊢;obtain⟨fn,tmps,assign,body,hy,hR⟩:=HY.1 [] false W H0.1 (by decide);unfold Hn at hy;gi_wp2
  refine⟨fun _=>by omega,hR.mono ?_⟩;rintro e W3 (⟨rfl,Nu,Qb⟩|⟨rfl,xM⟩)
  ·gi_wp2
   go_end0
   exact⟨⟨_,rfl⟩,.inl ⟨_,rfl,Nu⟩⟩
  ·gi_wp2
   go_end0
   exact⟨⟨_,rfl⟩,.inr ⟨_,List.prefix_refl _,xM⟩⟩
 ·by_cases c2:mode=2
  ·have hf:gO mode=[true]:=by unfold gO;rw[if_neg c1,if_pos c2]
   rw[hf] at HY⊢;obtain⟨fn,tmps,assign,body,hy,hR⟩:=HY.1 [] true W H0.1 (by decide);unfold Hn at hy;gi_wp2
   refine⟨fun _=>by omega,hR.mono ?_⟩;rintro e W3 (⟨rfl,Nu,Qb⟩|⟨rfl,xM⟩)
   ·gi_wp2
    go_end0
    exact⟨⟨_,rfl⟩,.inl ⟨_,rfl,Nu⟩⟩
   ·gi_wp2
    go_end0
    exact⟨⟨_,rfl⟩,.inr ⟨_,List.prefix_refl _,xM⟩⟩
  ·by_cases c3:mode=3
   ·have hf:gO mode=[true,false]:=by unfold gO;rw[if_neg c1,if_neg c2,if_pos c3]
    rw[hf] at HY⊢;obtain⟨fn,tmps,assign,body,hy,hR⟩:=HY.1 [] true W H0.1 (by decide);unfold Hn at hy;gi_wp2
    refine⟨fun _=>by omega,hR.mono ?_⟩;rintro e W3 (⟨rfl,Nu,Qb⟩|⟨rfl,xM⟩)
    ·obtain⟨fn2,aff,UY,afg,UZ,hR2⟩:=HY.1 [true] false W3 Nu (by decide);clear hy;unfold Hn at UZ;gi_wp2
     refine⟨fun _=>by omega,hR2.mono ?_⟩;rintro e W4 (⟨rfl,hJ4,hk4⟩|⟨rfl,aaq⟩)
     ·gi_wp2
      go_end0
      exact⟨⟨_,rfl⟩,.inl ⟨_,rfl,hJ4⟩⟩
     ·gi_wp2
      go_end0
      exact⟨⟨_,rfl⟩,.inr ⟨_,List.prefix_refl _,aaq⟩⟩
    ·gi_wp2
     refine⟨fun _ e=>(nomatch e),?_⟩;gi_wp2
     go_end0
     exact⟨⟨_,rfl⟩,.inr ⟨[true],⟨[false],rfl⟩,xM⟩⟩
   ·by_cases c4:mode=4
    ·have hf:gO mode=[false,true]:=by unfold gO;rw[if_neg c1,if_neg c2,if_neg c3,if_pos c4]
     rw[hf] at HY⊢;obtain⟨fn,tmps,assign,body,hy,hR⟩:=HY.1 [] false W H0.1 (by decide);unfold Hn at hy;gi_wp2
     refine⟨fun _=>by omega,hR.mono ?_⟩;rintro e W3 (⟨rfl,Nu,Qb⟩|⟨rfl,xM⟩)
     ·obtain⟨fn2,aff,UY,afg,UZ,hR2⟩:=HY.1 [false] true W3 Nu (by decide);clear hy;unfold Hn at UZ;gi_wp2
      refine⟨fun _=>by omega,hR2.mono ?_⟩;rintro e W4 (⟨rfl,hJ4,hk4⟩|⟨rfl,aaq⟩)
      ·gi_wp2
       go_end0
       exact⟨⟨_,rfl⟩,.inl ⟨_,rfl,hJ4⟩⟩
      ·gi_wp2
       go_end0
       exact⟨⟨_,rfl⟩,.inr ⟨_,List.prefix_refl _,aaq⟩⟩
     ·gi_wp2
      refine⟨fun _ e=>(nomatch e),?_⟩;gi_wp2
      go_end0
      exact⟨⟨_,rfl⟩,.inr ⟨[false],⟨[true],rfl⟩,xM⟩⟩
    ·have hf:gO mode=[]:=by unfold gO;rw[if_neg c1,if_neg c2,if_neg c3,if_neg c4]
     rw[hf];gi_wp2
     go_end0
     exact⟨⟨_,rfl⟩,.inl ⟨_,rfl,H0.1⟩⟩
theorem Cn(mode:Int)(w:World):
 Calls Tryz.prog 174 #[.int .i64 mode] w fun e w'=>e= .returned (.func (.func 189) #[] #[.pointer (some ⟨w.heap.size,0,none⟩)])∧w'=w.alloc (.cells #[.int .i64 mode] 3):=by
 have ON:∀(fn:Fn)(first cap:Array Value)(w:World),(Instr.makeFunc fn first cap).run Tryz.prog w= .ok (.func fn first cap) w:=fun _ _ _ _=>rfl;go_enter Tryz.func174,Tryz.ntmps174;go_wp2;go_ret;exact⟨rfl,rfl⟩
theorem Kf(w:World)(o1 o2 o3 o4 o5 o6:Obj):∀W,W=(((((w.alloc o1).alloc o2).alloc o3).alloc o4).alloc o5).alloc o6→
 W.heap[w.heap.size]? =some o1∧W.heap[w.heap.size+1]? =some o2∧W.heap[w.heap.size+1+1]? =some o3∧W.heap[w.heap.size+1+1+1]? =some o4∧W.heap[w.heap.size+1+1+1+1]? =some o5∧W.heap[w.heap.size+1+1+1+1+1]? =some o6∧W.heap.size=w.heap.size+6∧Below w.heap.size w W:=by
 rintro W rfl;have h1:=aI w o1;have h2:=aI (w.alloc o1) o2;have h3:=aI ((w.alloc o1).alloc o2) o3;have h4:=aI (((w.alloc o1).alloc o2).alloc o3) o4;have h5:=aI ((((w.alloc o1).alloc o2).alloc o3).alloc o4) o5;have h6:=aI (((((w.alloc o1).alloc o2).alloc o3).alloc o4).alloc o5) o6;simp only[World.size_alloc] at h2 h3 h4 h5 h6;exact⟨ar (ar (ar (ar (ar h1 _) _) _) _) _,ar (ar (ar (ar h2 _) _) _) _,ar (ar (ar h3 _) _) _,ar (ar h4 _) _,ar h5 _,h6,by simp only[World.size_alloc],ab (ab (ab (ab (ab (ab (Below.refl _ _) _) _) _) _) _) _⟩
def pick(rs:Bool→Int×Bool):List Bool→Bool×Int×Bool
 |[]=>(false,0,false)
 |x::l=>if(rs x).2=true then(x,(rs x).1,true) else pick rs l
theorem CX(rs:Bool→Int×Bool):∀l:List Bool,(∀x∈l,(rs x).2=false)→pick rs l=(false,0,false)
 |[],_=>rfl
 |x::l,h=>by rw[pick,if_neg (by rw[h x (by simp)];decide)];exact CX rs l (fun y hy=>h y (by simp [hy]))
theorem CY(rs:Bool→Int×Bool)(x:Bool)(q:List Bool)(hx:(rs x).2=true):∀p:List Bool,(∀y∈p,(rs y).2=false)→pick rs (p++x::q)=(x,(rs x).1,true)
 |[],_=>by rw[List.nil_append,pick,if_pos hx]
 |y::p,h=>by rw[List.cons_append,pick,if_neg (by rw[h y (by simp)];decide)];exact CY rs x q hx p (fun z hz=>h z (by simp [hz]))
structure FIn (w:World) (sv:Array Value) (n:Int) (W:World):Prop where
 s:W.heap[w.heap.size]? =some (.cells sv 28 (0,0))
 n:W.heap[w.heap.size+1]? =some (.cells #[.int .i64 n] 3 (0,0))
structure NZ (w:World) (b:Bool) (a:Int) (i:Bool) (W:World):Prop where
 b:W.heap[w.heap.size+1+1]? =some (.cells #[.bool b] 4 (0,0))
 a:W.heap[w.heap.size+1+1+1]? =some (.cells #[.int .i64 a] 3 (0,0))
 i:W.heap[w.heap.size+1+1+1+1]? =some (.cells #[.bool i] 4 (0,0))
def FIs(w:World)(sv:Array Value)(n:Int)(rs:Bool→Int×Bool)(pre:List Bool)(W:World):Prop:=FIn w sv n W∧NZ w false 0 false W∧(∀x∈pre,(rs x).2=false)∧Below w.heap.size w W∧w.heap.size+6≤W.heap.size
def afh(w:World)(rs:Bool→Int×Bool)(c:Code)(pre:List Bool)(W:World):Prop:=c= .ret∧Below w.heap.size w W∧∃p x,pre=p++[x]∧(∀y∈p,(rs y).2=false)∧(rs x).2=true∧NZ w x (rs x).1 true W
theorem FIn.keep{w:World}{sv:Array Value}{n:Int}{W W':World}(h:FIn w sv n W)(hk:∀k o,k<w.heap.size+5→W.heap[k]? =some o→o.isCells=true→W'.heap[k]? =W.heap[k]?):FIn w sv n W':=⟨(hk _ _ (by omega) h.s rfl).trans h.s,(hk _ _ (by omega) h.n rfl).trans h.n⟩
theorem NZ.keep{w:World}{b:Bool}{a:Int}{i:Bool}{W W':World}(h:NZ w b a i W)(hk:∀k o,k<w.heap.size+5→W.heap[k]? =some o→o.isCells=true→W'.heap[k]? =W.heap[k]?):NZ w b a i W':=⟨(hk _ _ (by omega) h.b rfl).trans h.b,(hk _ _ (by omega) h.a rfl).trans h.a,(hk _ _ (by omega) h.i rfl).trans h.i⟩
theorem U0{w:World}{sv:Array Value}{n:Int}{rs:Bool→Int×Bool}{B:Nat}(hB:w.heap.size≤B):OwnFrom B (FIs w sv n rs):=by
 rintro s X Y row ⟨h1,h2,h3,h4,h5⟩ hg hr;have hk:=fun(k:Nat)(o:Obj)(_:k<w.heap.size+5)(h:X.heap[k]? =some o)(hc:o.isCells=true)=>grownBy_keeps_cells hg (fun r e=>(hr r e).2) h hc;exact⟨h1.keep hk,h2.keep hk,h3,h4.grown hg h4.size (fun k e=>Nat.le_trans hB (hr k e).1),Nat.le_trans h5 hg.size⟩
theorem QJ{w:World}{rs:Bool→Int×Bool}{B:Nat}(hB:w.heap.size≤B)(c:Code):OwnFrom B (afh w rs c):=by
 rintro s X Y row ⟨h1,h2,p,x,h3,h4,h5,h6⟩ hg hr;have hk:=fun(k:Nat)(o:Obj)(_:k<w.heap.size+5)(h:X.heap[k]? =some o)(hc:o.isCells=true)=>grownBy_keeps_cells hg (fun r e=>(hr r e).2) h hc;exact⟨h1,h2.grown hg h2.size (fun k e=>Nat.le_trans hB (hr k e).1),p,x,h3,h4,h5,h6.keep hk⟩
def dW.f(k:Nat)(az ax aA aC aV aX:Int)(aw:List cU)(aD:List dJ)(aG:List (List Int))(a1:Int):Option (Bool×Int×Bool):=
 (jK.f k az ax aA aC aV aX aw aD aG true a1).bind fun bt=>(jK.f k az ax aA aC aV aX aw aD aG false a1).bind fun bf=>some (pick (fun x=>if x=true then bt else bf) (gO aV))
theorem dW.calls(k:Nat)(az ax aA aC aV aX:Int)(cN:Option Addr)(cF:Nat)(aw:List cU)(cy:Option Addr)(cA:Nat)(aD:List dJ)(cC:Option Addr)(cB:Nat)(aG:List (List Int))(a1:Int)(r1:Bool)(r2:Int)(r3:Bool)(w:World)(dZ:Kd.C gW w cN aw.length aw)(ef:aw.length≤cF)(eb:Kd.C gQ w cy aD.length aD)(en:aD.length≤cA)(dL:Kd.C (Kd.slice 5 (Kd.int .u8)) w cC aG.length aG)(ew:aG.length≤cB)
 (h:dW.f k az ax aA aC aV aX aw aD aG a1=some (r1,r2,r3)):
 Calls Tryz.prog 147 #[.agg #[.int .i64 az,.int .i64 ax,.int .i64 aA,.int .i64 aC,.int .i64 aV,.int .i64 aX,.slice cN aw.length cF,.slice cy aD.length cA,.slice cC aG.length cB],.int .i64 a1] w fun e w'=>e= .returned (.tuple #[.bool r1,.int .i64 r2,.bool r3])∧Below w.heap.size w w':=by
 obtain⟨bt,Ue,h⟩:=Option.bind_eq_some_iff.mp h;obtain⟨bf,hbf,h⟩:=Option.bind_eq_some_iff.mp h;have HP:=ak (Option.some.inj h);obtain⟨rs,hrs⟩:∃rs:Bool→Int×Bool,rs=fun x=>if x=true then bt else bf:=⟨_,rfl⟩
 rw[←hrs] at HP;have HX:=ak (show∀x,jK.f k az ax aA aC aV aX aw aD aG x a1=some (rs x) from fun x=>by rw[hrs];cases x<;>assumption);have HC:ae (∀(x:Bool)(W:World),Below w.heap.size w W→Calls Tryz.prog 175 #[.agg #[.int .i64 az,.int .i64 ax,.int .i64 aA,.int .i64 aC,.int .i64 aV,.int .i64 aX,.slice cN aw.length cF,.slice cy aD.length cA,.slice cC aG.length cB],.bool x,.int .i64 a1] W fun e w'=>e= .returned (.tuple #[.int .i64 (rs x).1,.bool (rs x).2])∧Below W.heap.size W w'):=⟨fun x W hb=>jK.calls k az ax aA aC aV aX cN cF aw cy cA aD cC cB aG x a1 (rs x).1 (rs x).2 W (Kd.aj dZ hb) ef (Kd.aj eb hb) en (Kd.aj dL hb) ew (HX.1 x)⟩;clear hrs Ue hbf h HX dZ eb dL ef en ew;refine(callsIn_wide (n:=8)).1 ?_;refine callsIn_of_wp_marks Tryz.func147 rfl trivial ?_ rfl;simp only[Tryz.ntmps147,List.size_toArray,List.length_cons,List.length_nil,Nat.reduceAdd,Nat.reduceSub,Array.replicate_succ,Array.replicate_zero,List.push_toArray,List.append_toArray,List.nil_append,List.cons_append]
 gi_wp2_with (refine⟨trivial,?_⟩;gi_at_call 174;refine(callsIn_wide.2 (Cn _ _)).mono ?_;rintro e w' ⟨rfl,rfl⟩)
 obtain⟨W0,pK⟩:∃W0,W0=(((((w.alloc (.cells #[.int .i64 az,.int .i64 ax,.int .i64 aA,.int .i64 aC,.int .i64 aV,.int .i64 aX,.slice cN aw.length cF,.slice cy aD.length cA,.slice cC aG.length cB] 28)).alloc (.cells #[.int .i64 a1] 3)).alloc (.cells #[.bool false] 4)).alloc (.cells #[.int .i64 0] 3)).alloc (.cells #[.bool false] 4)).alloc (.cells #[.int .i64 aV] 3):=⟨_,rfl⟩;obtain⟨q0,q1,q2,q3,q4,q5,q6,q7⟩:=Kf w _ _ _ _ _ _ W0 pK;rw[←pK];clear pK
 refine wpIn_rangeFunc_ownF (w:=W0) rfl (by omega) (gf:=189) (lb:= #[.pointer (some ⟨w.heap.size+1+1+1+1+1,0,none⟩)]) rfl trivial (enters_of Tryz.func189 (by kernel_rfl) rfl)
  (Bg (8-1) (by omega) _ aV W0 q5) (Kp:=KpT) (fun _ _=>trivial) (fun _ _ _ _ _ _ _ _=>trivial) (Below.refl _ _) (fun _=>rfl)
  (FIs w #[.int .i64 az,.int .i64 ax,.int .i64 aA,.int .i64 aC,.int .i64 aV,.int .i64 aX,.slice cN aw.length cF,.slice cy aD.length cA,.slice cC aG.length cB] a1 rs) (afh w rs) (U0 (by omega)) (QJ (by omega)) ⟨⟨q0,q1⟩,⟨q2,q3,q4⟩,fun _ h=>absurd h (by simp),q7,by omega⟩
  (fun x=>{tmps:= #[.agg #[.int .i64 az,.int .i64 ax,.int .i64 aA,.int .i64 aC,.int .i64 aV,.int .i64 aX,.slice cN aw.length cF,.slice cy aD.length cA,.slice cC aG.length cB],.int .i64 a1,.pointer (some ⟨w.heap.size,0,none⟩),.pointer (some ⟨w.heap.size+1,0,none⟩),.pointer (some ⟨w.heap.size+1+1,0,none⟩),.pointer (some ⟨w.heap.size+1+1+1,0,none⟩),.pointer (some ⟨w.heap.size+1+1+1+1,0,none⟩),.bool x,undef,undef,.pointer (some ⟨w.heap.size,4,none⟩),.int .i64 aV,.func (.func 189) #[] #[.pointer (some ⟨w.heap.size+1+1+1+1+1,0,none⟩)],.bool x,undef,undef,undef,undef,undef,undef,undef,undef,undef,undef],defers:=[]}) ?assign ?body ?done ?stop
 case assign=>
  rintro l x W K hK;have HK:=ak hK;clear hK;unfold Hn;gi_wp2
  exact HK.1
 case body=>
  rintro l pre x W ⟨i1,i2,i3,i4,i5⟩ cX;have s0:=(ah i1.s 0).trans rfl;have s1:=(ah i1.s 1).trans rfl;have s2:=(ah i1.s 2).trans rfl;have s3:=(ah i1.s 3).trans rfl;have s4:=(ah i1.s 4).trans rfl;have s5:=(ah i1.s 5).trans rfl;have s6:=(ah i1.s 6).trans rfl;have s7:=(ah i1.s 7).trans rfl;have s8:=(ah i1.s 8).trans rfl;have n0:=(ah i1.n 0).trans rfl;have I1:=ak i1;have I2:=ak i2;have I3:=ak i3;have I4:=ak i4;have oL:=i5;have rk:=HC.1 x W i4;clear i1 i2 i3 i4 i5 cX q0 q1 q2 q3 q4 q5 q6 q7;obtain⟨⟨ra,ri⟩,hr⟩:∃r,r=rs x:=⟨_,rfl⟩;rw[←hr] at rk;have HR:=ak hr;have tl:=ak rk;clear hr rk;cases ri with
  |false=>
   gi_wp2_with (refine⟨trivial,?_⟩;gi_at_call 175;refine(CallsIn.inRound l (callsIn_wide.2 tl.1)).mono ?_;rintro e w2 ⟨rfl,hb⟩;have HB:=ak hb;clear hb)
   have hk:∀k o,k<w.heap.size+5→W.heap[k]? =some o→o.isCells=true→w2.heap[k]? =W.heap[k]? :=fun k o hk _ _=>HB.1.block k (by omega)
   exact⟨⟨HB.1.size,fun k o h _=>(HB.1.block k (aN h)).trans h⟩,trivial,I1.1.keep hk,I2.1.keep hk,fun y hy=>by
    rcases List.mem_append.1 hy with hy|hy
    ·exact I3.1 y hy
    ·rw[List.mem_singleton.1 hy,←HR.1],bR I4.1 HB.1,Nat.le_trans oL HB.1.size⟩
  |true=>
   gi_wp2_with (refine⟨trivial,?_⟩;gi_at_call 175;refine(CallsIn.inRound l (callsIn_wide.2 tl.1)).mono ?_;rintro e w2 ⟨rfl,hb⟩;have d2:=(hb.block _ (aN I2.1.b)).trans I2.1.b;have d3:=(hb.block _ (aN I2.1.a)).trans I2.1.a;have d4:=(hb.block _ (aN I2.1.i)).trans I2.1.i;have e2:=(ah d2 0).trans rfl;have e3:=(ah d3 0).trans rfl;have e4:=(ah d4 0).trans rfl;have g2:=bn d2 0;have g3:=bn d3 0;have g4:=bn d4 0;have D2:=ak d2;have D3:=ak d3;have D4:=ak d4;have HB:=ak hb;clear hb d2 d3 d4)
   have hrx:(rs x).2=true∧(rs x).1=ra:=by rw[←HR.1];exact⟨rfl,rfl⟩
   exact⟨(⟨HB.1.size,fun k o h _=>(HB.1.block k (aN h)).trans h⟩:KeepsOthers W w2).trans (((KeepsOthers.setCell _ _ _).trans (KeepsOthers.setCell _ _ _)).trans (KeepsOthers.setCell _ _ _)),rfl,(((bR I4.1 HB.1).setCell (by simp only;omega) _).setCell (by simp only;omega) _).setCell (by simp only;omega) _,pre,x,rfl,I3.1,hrx.1,by
    rw[hrx.2];exact⟨aJ (aJ (aQ D2.1 0 _ rfl) (by simp only;omega) _) (by simp only;omega) _,aJ (aQ (aJ D3.1 (by simp only;omega) _) 0 _ rfl) (by simp only;omega) _,aQ (aJ (aJ D4.1 (by simp only;omega) _) (by simp only;omega) _) 0 _ rfl⟩⟩
 case done=>
  rintro D ys W hD rfl ⟨i1,i2,i3,i4,i5⟩ hK;have hp:=HP.1;rw[CX rs _ i3] at hp;simp only[Prod.mk.injEq] at hp;obtain⟨rfl,rfl,rfl⟩:=hp;have e2:=(ah i2.b 0).trans rfl;have e3:=(ah i2.a 0).trans rfl;have e4:=(ah i2.i 0).trans rfl;have g2:=bn i2.b 0;have g3:=bn i2.a 0;have g4:=bn i2.i 0;have I2:=ak i2;have I4:=ak i4;have HK:=ak hK;clear i1 i2 i3 i4 hK q0 q1 q2 q3 q4 q5 q7;gi_wp2
  have eK:=(((KeepsOthers.setCell W ⟨w.heap.size+1+1,0,none⟩ (.bool false)).trans (KeepsOthers.setCell _ ⟨w.heap.size+1+1+1,0,none⟩ (.int .i64 0))).trans (KeepsOthers.setCell _ ⟨w.heap.size+1+1+1+1,0,none⟩ (.bool false))).same D _ HK.1 rfl;have eB:Below w.heap.size w ((((W).setCell ⟨w.heap.size+1+1,0,none⟩ (.bool false)).setCell ⟨w.heap.size+1+1+1,0,none⟩ (.int .i64 0)).setCell ⟨w.heap.size+1+1+1+1,0,none⟩ (.bool false)):=((I4.1.setCell (by simp only;omega) _).setCell (by simp only;omega) _).setCell (by simp only;omega) _;have eR:NZ w false 0 false ((((W).setCell ⟨w.heap.size+1+1,0,none⟩ (.bool false)).setCell ⟨w.heap.size+1+1+1,0,none⟩ (.int .i64 0)).setCell ⟨w.heap.size+1+1+1+1,0,none⟩ (.bool false)):=⟨aJ (aJ (aQ I2.1.b 0 _ rfl) (by simp only;omega) _) (by simp only;omega) _,aJ (aQ (aJ I2.1.a (by simp only;omega) _) 0 _ rfl) (by simp only;omega) _,aQ (aJ (aJ I2.1.i (by simp only;omega) _) (by simp only;omega) _) 0 _ rfl⟩;refine⟨by simp,.inl ⟨_,_,rfl,run_takeDeferred eK,?_⟩⟩;generalize(((W).setCell ⟨w.heap.size+1+1,0,none⟩ (.bool false)).setCell ⟨w.heap.size+1+1+1,0,none⟩ (.int .i64 0)).setCell ⟨w.heap.size+1+1+1+1,0,none⟩ (.bool false)=W2 at eK eB eR⊢;have k2:(W2.putObj D (.deferred none)).cell? ⟨w.heap.size+1+1,0,none⟩=some (.bool false):=(ah ((World.putObj_heap_other (by omega)).trans eR.b) 0).trans rfl;have k3:(W2.putObj D (.deferred none)).cell? ⟨w.heap.size+1+1+1,0,none⟩=some (.int .i64 0):=(ah ((World.putObj_heap_other (by omega)).trans eR.a) 0).trans rfl;have k4:(W2.putObj D (.deferred none)).cell? ⟨w.heap.size+1+1+1+1,0,none⟩=some (.bool false):=(ah ((World.putObj_heap_other (by omega)).trans eR.i) 0).trans rfl;refine⟨.tuple #[.bool false,.int .i64 0,.bool false],?_,rfl,eB.trans (belowK_b (w:=w) (Nat.le_refl _) W2 D _ _ (by omega) eK rfl rfl)⟩;simp [results,Tryz.f147,go_sem,k2,k3,k4]
 case stop=>
  rintro D cx pre W hD J4 ⟨rfl,i4,p,x,rfl,h2,h3,i2⟩ hK;obtain⟨q,hq⟩:=J4;have hp:=HP.1;rw[←hq,List.append_assoc,List.singleton_append,CY rs x q h3 p h2] at hp;simp only[Prod.mk.injEq] at hp;obtain⟨rfl,rfl,rfl⟩:=hp;have I2:=ak i2;have I4:=ak i4;have HK:=ak hK;clear i2 i4 hK hq h2 h3 q0 q1 q2 q3 q4 q5 q7;gi_wp2
  refine⟨by simp,.inl ⟨_,_,rfl,run_takeDeferred HK.1,?_⟩⟩;have k2:(W.putObj D (.deferred none)).cell? ⟨w.heap.size+1+1,0,none⟩=some (.bool x):=(ah ((World.putObj_heap_other (by omega)).trans I2.1.b) 0).trans rfl;have k3:(W.putObj D (.deferred none)).cell? ⟨w.heap.size+1+1+1,0,none⟩=some (.int .i64 (rs x).1):=(ah ((World.putObj_heap_other (by omega)).trans I2.1.a) 0).trans rfl;have k4:(W.putObj D (.deferred none)).cell? ⟨w.heap.size+1+1+1+1,0,none⟩=some (.bool true):=(ah ((World.putObj_heap_other (by omega)).trans I2.1.i) 0).trans rfl;refine⟨.tuple #[.bool x,.int .i64 (rs x).1,.bool true],?_,rfl,I4.1.trans (belowK_b (w:=w) (Nat.le_refl _) W D _ _ (by omega) HK.1 rfl rfl)⟩;simp [results,Tryz.f147,go_sem,k2,k3,k4]
end Go.Proofs.YtmhdcgmfbjcndaaGreatDoor.P
