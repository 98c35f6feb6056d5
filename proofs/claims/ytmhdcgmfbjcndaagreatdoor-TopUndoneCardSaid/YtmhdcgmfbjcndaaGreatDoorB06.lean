import Derived.Test.YtmhdcgmfbjcndaaGreatDoorB05
import Derived.LoopTactic
import Derived.Outline
import Derived.WalkSpells
set_option linter.unusedVariables false
set_option linter.unusedSimpArgs false
set_option maxRecDepth 100000
set_option maxHeartbeats 8000000
namespace Go.Proofs.YtmhdcgmfbjcndaaGreatDoor.P
open Go Go.RowKit Go.Proofs.aa.ag Go.Proofs.aa.ao Go.Proofs.aa.ay
section
variable {α β:Type}{c:Prop}[Decidable c]{x y:Option α}{b:α}
theorem iO(h:ae ((if c then x else none)=some b)):decide c=true∧ae (x=some b):=let ⟨p,q⟩:=io h.1;⟨decide_eq_true p,⟨q⟩⟩
theorem iP(h:ae ((if c then x else none)=some b)):c∧ae (x=some b):=let ⟨p,q⟩:=io h.1;⟨p,⟨q⟩⟩
theorem iQ(h:ae ((if c then x else none)=some b)):ae c∧ae (x=some b):=let ⟨p,q⟩:=io h.1;⟨⟨p⟩,⟨q⟩⟩
theorem ic(h:ae ((if c then x else y)=some b)):decide c=true∧ae (x=some b)∨decide c=false∧ae (y=some b):=by
 by_cases hc:c
 ·exact .inl ⟨decide_eq_true hc,⟨by have:=h.1;rwa [if_pos hc] at this⟩⟩
 ·exact .inr ⟨decide_eq_false hc,⟨by have:=h.1;rwa [if_neg hc] at this⟩⟩
theorem iC(h:ae ((if c then x else y)=some b)):c∧ae (x=some b)∨¬c∧ae (y=some b):=by
 rcases ic h with⟨p,q⟩|⟨p,q⟩
 ·exact .inl ⟨of_decide_eq_true p,q⟩
 ·exact .inr ⟨of_decide_eq_false p,q⟩
theorem ib{t:Bool}(h:ae ((if t=true then x else y)=some b)):t=true∧ae (x=some b)∨t=false∧ae (y=some b):=by
 cases t
 ·exact .inr ⟨rfl,⟨by have:=h.1;rwa [if_neg nf] at this⟩⟩
 ·exact .inl ⟨rfl,⟨by have:=h.1;rwa [if_pos rfl] at this⟩⟩
theorem bI{x:Option β}{f:β→Option α}(h:ae (x.bind f=some b)):∃a,ae (x=some a)∧ae (f a=some b):=let ⟨a,p,q⟩:=Option.bind_eq_some_iff.mp h.1;⟨a,⟨p⟩,⟨q⟩⟩
theorem tp(p:Prop)[Decidable p](h:decide p=true:=by first|(with_reducible assumption)|assumption):p=True:=eq_true (of_decide_eq_true h)
theorem s1{a:α}(h:ae (some a=some b)):a=b:=Option.some.inj h.1
end
section
variable {α1 α2 α3 α4 α5 α6 α7 α8 α9 α10:Type}{a1 b1:α1}{a2 b2:α2}{a3 b3:α3}{a4 b4:α4}{a5 b5:α5}{a6 b6:α6}{a7 b7:α7}{a8 b8:α8}{a9 b9:α9}{a10 b10:α10}
theorem s2(h:ae (some (a1,a2)=some (b1,b2))):a1=b1∧a2=b2:=by cases h.1;exact⟨rfl,rfl⟩
theorem s3(h:ae (some (a1,a2,a3)=some (b1,b2,b3))):a1=b1∧a2=b2∧a3=b3:=by cases h.1;exact⟨rfl,rfl,rfl⟩
theorem s4(h:ae (some (a1,a2,a3,a4)=some (b1,b2,b3,b4))):a1=b1∧a2=b2∧a3=b3∧a4=b4:=by cases h.1;exact⟨rfl,rfl,rfl,rfl⟩
theorem s9(h:ae (some (a1,a2,a3,a4,a5,a6,a7,a8,a9)=some (b1,b2,b3,b4,b5,b6,b7,b8,b9))):a1=b1∧a2=b2∧a3=b3∧a4=b4∧a5=b5∧a6=b6∧a7=b7∧a8=b8∧a9=b9:=by cases h.1;exact⟨rfl,rfl,rfl,rfl,rfl,rfl,rfl,rfl,rfl⟩
theorem SJ(h:ae (some (a1,a2,a3,a4,a5,a6,a7,a8,a9,a10)=some (b1,b2,b3,b4,b5,b6,b7,b8,b9,b10))):a1=b1∧a2=b2∧a3=b3∧a4=b4∧a5=b5∧a6=b6∧a7=b7∧a8=b8∧a9=b9∧a10=b10:=by cases h.1;exact⟨rfl,rfl,rfl,rfl,rfl,rfl,rfl,rfl,rfl,rfl⟩
end
theorem lm{p:Prop}(h:p:=by(repeat' first|(with_reducible exact sL.refl _)|(with_reducible exact sL.none _)|(with_reducible apply SK)|(with_reducible apply ih1)|(with_reducible apply ih2)|(with_reducible apply ih3)|(with_reducible apply ih4)|(with_reducible apply ih5)|(with_reducible apply ih6)|(with_reducible apply ih7)|(with_reducible refine sL.ite ?_ ?_)|(with_reducible refine sL.bind ?_ (fun _=>?_))|exact sL.none _|refine sL.ite ?_ ?_|refine sL.bind ?_ (fun _=>?_))):p:=h
section
variable {w0 w1 W:World}{g t:Nat}{o:Obj}{cs C:Array Value}{row:Option Nat}
theorem fa{u:Value}{j b:Nat}(hp:ae (g≠b))(h:W.heap[g]? =some (.cells C t (0,0))):(W.setCell ⟨b,j,none⟩ u).heap[g]? =some (.cells C t (0,0)):=aJ h hp.1 _
theorem pk(hw:W.heap[g]? =some (.cells cs t (0,0)):=by(repeat (with_reducible first|exact ae.out (by assumption)|refine cW ?_ _|refine aY ?_|refine ar ?_ _|apply kf|(apply fa;assumption))))(e:cs=C:=by rfl):W.heap[g]? =some (.cells C t (0,0)):=e▸hw
theorem pb(h:ae (w0.heap[g]? =some o))(hb:Below W.heap.size W w1)(hw:W.heap[g]? =some (.cells cs t (0,0)):=by(repeat (with_reducible first|exact ae.out (by assumption)|refine cW ?_ _|refine aY ?_|refine ar ?_ _|apply kf|(apply fa;assumption))))(e:cs=C:=by first|(simp only[List.setIfInBounds_toArray,List.set_cons_zero,List.set_cons_succ];done)|(simp only[List.setIfInBounds_toArray,List.set_cons_zero,List.set_cons_succ];rfl)|rfl):ae (w1.heap[g]? =some (.cells C t (0,0))):=⟨fe (e▸hw) hb⟩
theorem pg(h:ae (w0.heap[g]? =some o))(hg:W.grownBy w1 row)(hn:some g≠row)(hw:W.heap[g]? =some (.cells cs t (0,0)):=by(repeat (with_reducible first|exact ae.out (by assumption)|refine cW ?_ _|refine aY ?_|refine ar ?_ _|apply kf|(apply fa;assumption))))(e:cs=C:=by first|(simp only[List.setIfInBounds_toArray,List.set_cons_zero,List.set_cons_succ];done)|(simp only[List.setIfInBounds_toArray,List.set_cons_zero,List.set_cons_succ];rfl)|rfl):ae (w1.heap[g]? =some (.cells C t (0,0))):=⟨bo (e▸hw) hg hn⟩
theorem cf(h:ae (W.heap[g]? =some (.cells C t (0,0)))):(∀i,W.cell? ⟨g,i,none⟩=C[i]?)∧∀i,W.frozen? ⟨g,i,none⟩=false:=⟨ah h.1,bn h.1⟩
end
section
variable {α:Type}{d:Kd α}{e base:Nat}{ok:Nat→Prop}{v:Value}{xs:List α}{w w0 W:World}
theorem rf(g:Nat)(h:ae (d.R e w0 base ok v xs))(hw:d.R e w0 base (fun k=>ok k∧k≠g) v xs→d.R e w base (fun k=>ok k∧k≠g) v xs:=by intro h;(repeat (with_reducible first|apply Kd.bQ|apply Kd.dh|apply Kd.cR|refine Kd.fu ?_ (fun _ hk=>hk.2) _));exact h)(hk:∀k,ok k→k≠g:=by exact fun _ hk=>hk.2):d.R e w base ok v xs:=Kd.bJ (hw (Kd.bJ h.1 (fun k h=>⟨h,hk k h⟩))) (fun _ h=>h.1)
theorem cw{A:Option Addr}{n:Nat}(h:ae (d.C w A n xs))(hB:Below w.heap.size w W:=by exact HB.1):d.C W A n xs:=Kd.aj h.1 hB
end
section
variable {P:Program}{ops:Array Oper}{rest:List Oper}{o:Oper}{a:Act}{Q:Exit→Act→World→Prop}{w W:World}
theorem bX(t:TypeId)(C:Array Value)(h:∀(g:Nat)(w1:World),ae (w1.heap[g]? =some (.cells C t (0,0)))→ae (w.heap.size≤g)→ae (Below w.heap.size w w1)→g=W.heap.size→Below W.heap.size W w1→wpList P ops Q rest (a.put o.dst (.pointer (some ⟨g,0,none⟩))) w1)
 {N:Tmp} (hd:o.dst=some N:=by rfl) (um:o.guard=none:=by rfl) (iI:(execOp a.eval o).run P W= .ok (.value (.pointer (some ⟨W.heap.size,0,none⟩))) (W.alloc (.cells C t (0,0))):=by first|(go_simp;done)|(go_simp;rfl)) (hB:Below w.heap.size w W:=by exact bl):wpList P ops Q (o::rest) a W:=
 xw um hd iI fun g hg w1 eh hb=>h g w1 ⟨eh⟩ (qg hg hB) ⟨bR hB hb⟩ hg hb
theorem bY(t:TypeId)(C:Array Value)(h:∀(g:Nat)(w1:World),ae (w1.heap[g]? =some (.cells C t (0,0)))→ae (w.heap.size≤g)→ae (Below w.heap.size w w1)→wpList P ops Q rest (a.put o.dst (.pointer (some ⟨g,0,none⟩))) w1)
 {N:Tmp} (hd:o.dst=some N:=by rfl) (um:o.guard=none:=by rfl) (iI:(execOp a.eval o).run P W= .ok (.value (.pointer (some ⟨W.heap.size,0,none⟩))) (W.alloc (.cells C t (0,0))):=by first|(go_simp;done)|(go_simp;rfl)) (hB:Below w.heap.size w W:=by exact bl):wpList P ops Q (o::rest) a W:=
 xw um hd iI fun g hg w1 eh hb=>h g w1 ⟨eh⟩ (qg hg hB) ⟨bR hB hb⟩
theorem nn{w0:World}{g g':Nat}{o:Obj}(h:ae (w0.heap[g]? =some o))(hg:g'=W.heap.size)(hw:w0.heap[g]? =some o→W.heap[g]? =some o:=by intro h;exact bu ⟨h⟩):ae (g≠g')∧ae (g'≠g):=⟨nl h hg hw,nr h hg hw⟩
end
end Go.Proofs.YtmhdcgmfbjcndaaGreatDoor.P
namespace Go.Proofs.YtmhdcgmfbjcndaaGreatDoor.P
open Go.RowKit Go.Proofs.aa.ag Go.Proofs.aa.ao Go.Proofs.aa.ay
theorem fz.calls(a0:Int)(h:0≤a0)(b:Bool)(hb:(a0%4==0)=b)(w:World):
 Calls Tryz.prog 87 #[.int .i64 a0] w fun e w'=>e= .returned (.bool b)∧w=w':=by
 go_enter Tryz.func87,Tryz.ntmps87;go_wp2;go_ret;exact⟨by first|rfl|(simp [←hb];done),rfl⟩
def er(acc:List eE)(at_ e:Int):List eE:=if e>at_ then acc++[⟨at_,e-at_⟩] else acc
theorem Av.calls(at_ e_:Int)(g:Nat)(v:Value)(acc:List eE)(w0 w:World)(dH:0≤at_)(vH:at_≤2048)(he:0≤e_)(he2:e_≤2048)
 (hg:w.heap[g]? =some (.cells #[v] 60 (0,0))) (hR:Kd.R zb 66 w w0.heap.size (fun _=>True) v acc) (hB:Below w0.heap.size w0 w) (F9:w0.heap.size≤g) (hl:acc.length≤4096):
 Calls Tryz.prog 154 #[.int .i64 at_,.int .i64 e_,.pointer (some ⟨g,0,none⟩)] w fun e w'=>e= .returned (.tuple #[])∧∃v',w'.heap[g]? =some (.cells #[v'] 60 (0,0))∧Kd.R zb 66 w' w0.heap.size (fun _=>True) v' (er acc at_ e_)∧Below w0.heap.size w0 w'∧iK w w' g v.ownBlock:=by
 have hu:=Tryz.underlying66;have HG:=ak hg;have HR:=ak hR;have HB:=ak hB;clear hR hB
 by_cases cX:at_<e_
 ·have jr:w.cell? ⟨g,0,none⟩=some v:=(ah hg 0).trans rfl;have hf0:=bn hg 0;clear hg;go_enter Tryz.func154,Tryz.ntmps154
  go_wp2_with((with_reducible refine dm (b:= .append) (xs:= #[.tmp 8,.tmp 14]) rfl ?_);at_builtin;refine Kd.jO zb (w0:=w0) w0.heap.size rfl (.tmp 8) (.tmp 14) 60 66 (.agg #[(.int .i64 0),(.int .i64 0)]) 16 rfl Tryz.underlying60 Dy rfl (by decide) (by omega) v acc (⟨at_,e_-at_⟩:eE) [.int .i64 at_,.int .i64 (e_-at_)] (fun _=>True) (fun _=>False) rfl rfl ?aP (fun _ hk=>hk.elim) ?aF ?aO ?aB ?aS ?aL ?_;(case aP=>exact vF _ _ _ (⟨at_,e_-at_⟩:eE));(case aB=>exact HB.1);(case aF=>exact(fun _ _=>trivial));(case aO=>exact HR.1);(case aS=>exact(aq HB.1));(case aL=>omega);intro v1 w1 ho hb my dH;have zp:=bo HG.1 my (Kd.jA HR.1 HG.1 (by decide));have tT:w1.cell? ⟨g,0,none⟩=some v:=(ah zp 0).trans rfl;have hf1:=bn zp 0;obtain⟨A1,c1,rfl⟩:=Kd.bm ho;have HO:=ak ho;have Lt:=ak zp;have kC:=ak hb;have HK:=ak (iK.O4 my g);clear ho zp hb my dH)
  go_end0
  refine⟨rfl,_,kf Lt.1 0 _,?_,aH kC.1 F9,iK.akB HK.1 0 _⟩;unfold er;rw[if_pos (by omega)];have h9:=HO.1;rw[List.length_append,List.length_singleton] at h9;exact Kd.jq h9 Lt.1 (by decide) 0 _
 ·go_enter Tryz.func154,Tryz.ntmps154;go_wp2
  go_end0
  exact⟨rfl,v,HG.1,by unfold er;rw[if_neg (by omega)];exact HR.1,HB.1,iK.refl _ _ _⟩
def jY(at_ tt:Int)(s:eE):Prop:=at_≤s.f0∧s.f0≤tt∧4≤s.f1∧s.f1≤tt-s.f0∧s.f0%4=0∧s.f1%4=0
instance (at_ tt:Int) (s:eE):Decidable (jY at_ tt s):=by unfold jY;infer_instance
def bz(tt:Int):List eE→Int→List eE→Option (List eE)
 |acc,at_,[]=>some (er acc at_ tt)
 |acc,at_,s::r=>if jY at_ tt s then bz tt (er acc at_ s.f0) (s.f0+s.f1) r else none
def eX(fr tt:Int):Prop:=0≤fr∧fr≤tt∧tt≤2048∧fr%4=0∧tt%4=0
instance (fr tt:Int):Decidable (eX fr tt):=by unfold eX;infer_instance
theorem mI(acc:List eE)(a e:Int):(er acc a e).length≤acc.length+1:=by
 unfold er;split<;>simp
structure oo (tt fr:Int) (l2 acc:List eE) (k:Nat) (a:Int):Prop where
 hk:k≤l2.length
 ha:0≤a
 ha2:a≤tt
 hl:acc.length≤k
 h4:4*k≤a
 hw:bz tt acc a (l2.drop k)=bz tt [] fr l2
theorem xD{l2:List eE}{k:Nat}(h:k<l2.length):l2.drop k=bU l2 k::l2.drop (k+1):=by
 rw[List.drop_eq_getElem_cons h]
 congr 1
 unfold bU;rw[Int.toNat_natCast,List.getD_eq_getElem?_getD,List.getElem?_eq_getElem h];rfl
theorem oo.next{tt fr:Int}{l2 acc:List eE}{k:Nat}{a:Int}(h:oo tt fr l2 acc k a)(hk:k<l2.length)(hf:jY a tt (bU l2 k)):
 oo tt fr l2 (er acc a (bU l2 k).f0) (k+1) ((bU l2 k).f0+(bU l2 k).f1):=by
 have hl:=mI acc a (bU l2 k).f0;have h0:=h.hl;have h1:=h.h4;have hw:=h.hw;rw[xD hk] at hw;simp only[bz] at hw;rw[if_pos hf] at hw;obtain⟨f1,f2,f3,f4,_,_⟩:=hf;have:=h.ha;exact⟨by omega,by omega,by omega,by omega,by omega,hw⟩
theorem oo.bad{tt fr:Int}{l2 acc:List eE}{k:Nat}{a:Int}(h:oo tt fr l2 acc k a)(hk:k<l2.length)(hf:¬jY a tt (bU l2 k)):
 bz tt [] fr l2=none:=by
 have hw:=h.hw;rw[xD hk] at hw;simp only[bz] at hw;rw[if_neg hf] at hw;exact hw.symm
theorem oo.done{tt fr:Int}{l2 acc:List eE}{k:Nat}{a:Int}(h:oo tt fr l2 acc k a)(hk:¬k<l2.length):bz tt [] fr l2=some (er acc a tt):=by
 have hw:=h.hw;rw[List.drop_of_length_le (by omega)] at hw;exact hw.symm
theorem Px{w:World}{base:Nat}{ok:Nat→Prop}{v:Value}{xs:List eE}(h:Kd.R zb 66 w base ok v xs):some w.heap.size≠v.ownBlock:=by
 obtain⟨inner,ho⟩:=Kd.vu h;intro e;have:=Dm ho _ e.symm;omega
def nI(g:Nat)(w0:World)(R:Option (List eE))(e:Ending)(w':World):Prop:=
 e= .returned (.bool R.isSome)∧(∃v',w'.heap[g]? =some (.cells #[v'] 60 (0,0))∧∀r,R=some r→Kd.R zb 66 w' w0.heap.size (fun _=>True) v' r)∧Below w0.heap.size w0 w'
theorem jC.calls(fr tt:Int)(A2:Option Addr)(c2:Nat)(l2:List eE)(g:Nat)(w0 w:World)(zc:Kd.C zb w0 A2 l2.length l2)(he:eX fr tt)
 (hg:w.heap[g]? =some (.cells #[.slice none 0 0] 60 (0,0))) (hB:Below w0.heap.size w0 w) (F9:w0.heap.size≤g):
 Calls Tryz.prog 47 #[.int .i64 fr,.int .i64 tt,.slice A2 l2.length c2,.func (.func 154) #[] #[.pointer (some ⟨g,0,none⟩)]] w (nI g w0 (bz tt [] fr l2)):=by
 have hu:=Tryz.underlying66;obtain⟨h1,h2,h3,h4,h5⟩:=he;have e4:(fr%4==0)=true:=beq_iff_eq.2 h4;have e5:(tt%4==0)=true:=beq_iff_eq.2 h5;have HE4:=ak e4;have HE5:=ak e5;have HG:=ak hg;have WG:=ak zc;have HB:=ak hB;clear e4 e5 hg zc hB h4 h5;go_enter Tryz.func47,Tryz.ntmps47
 go_wp2_with(go_at_call 87;first|(refine(fz.calls fr h1 _ HE4.1 _).mono ?_;rintro e w' ⟨rfl,rfl⟩)|(refine(fz.calls tt (by omega) _ HE5.1 _).mono ?_;rintro e w' ⟨rfl,rfl⟩))
 go_loopw [9,36] (fun x i wr=>∃(k:Nat)(a:Int)(acc:List eE)(v:Value),i= .int .i64 k∧x= .int .i64 a∧oo tt fr l2 acc k a∧ae (wr.heap[g]? =some (.cells #[v] 60 (0,0)))∧ae (Kd.R zb 66 wr w0.heap.size (fun _=>True) v acc)∧ae (Below w0.heap.size w0 wr)) (fun _ i _=>l2.length-(intOf i).toNat)
 case atStart=>exact⟨0,fr,[],_,rfl,rfl,⟨by omega,h1,h2,by simp,by omega,rfl⟩,HG,⟨Kd.lN _ _ _ _ _⟩,HB⟩
 case round=>
  obtain⟨k,a,acc,v,rfl,rfl,HA,HG,HR,HB⟩:=hrel;have ha:=HA.ha;have ha2:=HA.ha2;have hl:=HA.hl;have hk4:=HA.h4
  by_cases cX:k<l2.length
  ·obtain⟨ad,e_,oe,oq⟩:=oZ (Kd.aj WG.1 HB.1) (k:Int) (by omega) (by omega);cases e_;rw[Int.toNat_natCast] at oe oq;have Ax:=ak (fun hf=>HA.next cX hf);have vI:=ak (fun hf=>HA.bad cX hf);clear HA;generalize bU l2 (k:Int)=s at oe oq Ax vI;obtain⟨s0,s1⟩:=s
   by_cases c1:s0<a
   ·have HN:=ak (vI.1 (fun z=>by have:=z.1;simp only at this;omega));clear Ax vI;go_wp2;go_ret;unfold nI;rw[HN.1];exact⟨rfl,⟨v,ar HG.1 _,fun r hr=>by cases hr⟩,ab HB.1 _⟩
   ·by_cases c2:tt<s0
    ·have HN:=ak (vI.1 (fun z=>by obtain⟨z1,z2,z3,z4,z5,z6⟩:=z;simp only at z1 z2 z3 z4 z5 z6;omega));clear Ax vI;go_wp2;go_ret;unfold nI;rw[HN.1];exact⟨rfl,⟨v,ar HG.1 _,fun r hr=>by cases hr⟩,ab HB.1 _⟩
    ·by_cases c3:s1<4
     ·have HN:=ak (vI.1 (fun z=>by obtain⟨z1,z2,z3,z4,z5,z6⟩:=z;simp only at z1 z2 z3 z4 z5 z6;omega));clear Ax vI;go_wp2;go_ret;unfold nI;rw[HN.1];exact⟨rfl,⟨v,ar HG.1 _,fun r hr=>by cases hr⟩,ab HB.1 _⟩
     ·by_cases c4:tt-s0<s1
      ·have HN:=ak (vI.1 (fun z=>by obtain⟨z1,z2,z3,z4,z5,z6⟩:=z;simp only at z1 z2 z3 z4 z5 z6;omega));clear Ax vI;go_wp2;go_ret;unfold nI;rw[HN.1];exact⟨rfl,⟨v,ar HG.1 _,fun r hr=>by cases hr⟩,ab HB.1 _⟩
      ·by_cases c5:s0%4=0
       ·by_cases c6:s1%4=0
        ·have HN:=ak (Ax.1 ⟨by simp only;omega,by simp only;omega,by simp only;omega,by simp only;omega,c5,c6⟩);have Jw:=ak (show(s0%4==0)=true from beq_iff_eq.2 c5);have TM:=ak (show(s1%4==0)=true from beq_iff_eq.2 c6);clear Ax vI c5 c6;have hk:k<512:=by omega
         have d1:¬s0<a:=c1
         go_wp2_with(first|(go_at_call 87;first|(refine(fz.calls s0 (by omega) _ Jw.1 _).mono ?_;rintro e w' ⟨rfl,rfl⟩)|(refine(fz.calls s1 (by omega) _ TM.1 _).mono ?_;rintro e w' ⟨rfl,rfl⟩))|(go_at_call 154;refine(Av.calls a s0 g v acc w0 _ ha (by omega) (by omega) (by omega) (ar HG.1 _) (Kd.bQ HR.1 _) (ab HB.1 _) F9 (by omega)).mono ?_;rintro e w2 ⟨rfl,v',WH,hr',hb',hkb⟩;have hs2:=hkb.eS (aI wr _) (by have:=aN HG.1;omega) (Px HR.1);have y0:w2.cell? ⟨wr.heap.size,0,none⟩=some (.int .i64 s0):=(ah hs2 0).trans rfl;have y1:w2.cell? ⟨wr.heap.size,1,none⟩=some (.int .i64 s1):=(ah hs2 1).trans rfl;clear hkb hs2;have TN:=ak WH;have HR3:=ak hr';have nS:=ak hb';clear WH hr' hb'))
         go_roundw
         case rel=>exact⟨k+1,s0+s1,_,v',by go_num,rfl,HN.1,TN,HR3,nS⟩
         case measure=>simp [intOf];omega
        ·have Jw:=ak (show(s0%4==0)=true from beq_iff_eq.2 c5);have TM:=ak (show(s1%4==0)=false from beq_eq_false_iff_ne.2 c6);have HN:=ak (vI.1 (fun z=>by obtain⟨z1,z2,z3,z4,z5,z6⟩:=z;simp only at z1 z2 z3 z4 z5 z6;omega));clear Ax vI
         go_wp2_with(go_at_call 87;first|(refine(fz.calls s0 (by omega) _ Jw.1 _).mono ?_;rintro e w' ⟨rfl,rfl⟩)|(refine(fz.calls s1 (by omega) _ TM.1 _).mono ?_;rintro e w' ⟨rfl,rfl⟩))
         go_ret;unfold nI;rw[HN.1];exact⟨rfl,⟨v,ar HG.1 _,fun r hr=>by cases hr⟩,ab HB.1 _⟩
       ·have Jw:=ak (show(s0%4==0)=false from beq_eq_false_iff_ne.2 c5);have HN:=ak (vI.1 (fun z=>by obtain⟨z1,z2,z3,z4,z5,z6⟩:=z;simp only at z1 z2 z3 z4 z5 z6;omega));clear Ax vI
        go_wp2_with(go_at_call 87;(refine(fz.calls s0 (by omega) _ Jw.1 _).mono ?_;rintro e w' ⟨rfl,rfl⟩))
        go_ret;unfold nI;rw[HN.1];exact⟨rfl,⟨v,ar HG.1 _,fun r hr=>by cases hr⟩,ab HB.1 _⟩
  ·have HN:=ak (HA.done cX);clear HA
   go_wp2_with(go_at_call 154;refine(Av.calls a tt g v acc w0 _ ha (by omega) (by omega) h3 HG.1 HR.1 HB.1 F9 (by omega)).mono ?_;rintro e w' ⟨rfl,v',WH,hr',hb',_⟩)
   go_ret;unfold nI;rw[HN.1];exact⟨rfl,⟨v',WH,fun r hr=>by obtain rfl:=Option.some.inj hr;exact hr'⟩,hb'⟩
theorem jC.no(fr tt:Int)(A2:Option Addr)(c2 n2:Nat)(fv:Value)(w:World)(he:¬eX fr tt):
 Calls Tryz.prog 47 #[.int .i64 fr,.int .i64 tt,.slice A2 n2 c2,fv] w fun e w'=>e= .returned (.bool false)∧w=w':=by
 unfold eX at he
 by_cases c1:fr<0
 ·clear he;go_enter Tryz.func47,Tryz.ntmps47;go_wp2;go_ret;exact⟨rfl,rfl⟩
 ·by_cases c2:tt<fr
  ·clear he;go_enter Tryz.func47,Tryz.ntmps47;go_wp2;go_ret;exact⟨rfl,rfl⟩
  ·by_cases c3:2048<tt
   ·clear he;go_enter Tryz.func47,Tryz.ntmps47;go_wp2;go_ret;exact⟨rfl,rfl⟩
   ·by_cases c5:fr%4=0
    ·have Jw:=ak (show(fr%4==0)=true from beq_iff_eq.2 c5);have TM:=ak (show(tt%4==0)=false from beq_eq_false_iff_ne.2 (fun c6=>he ⟨by omega,by omega,by omega,c5,c6⟩));clear he c5;go_enter Tryz.func47,Tryz.ntmps47
     go_wp2_with(go_at_call 87;first|(refine(fz.calls fr (by omega) _ Jw.1 _).mono ?_;rintro e w' ⟨rfl,rfl⟩)|(refine(fz.calls tt (by omega) _ TM.1 _).mono ?_;rintro e w' ⟨rfl,rfl⟩))
     go_ret;exact⟨rfl,rfl⟩
    ·have Jw:=ak (show(fr%4==0)=false from beq_eq_false_iff_ne.2 c5);clear he c5;go_enter Tryz.func47,Tryz.ntmps47
     go_wp2_with(go_at_call 87;first|(refine(fz.calls fr (by omega) _ Jw.1 _).mono ?_;rintro e w' ⟨rfl,rfl⟩))
     go_ret;exact⟨rfl,rfl⟩
def mJ.f(a0 a1:Int)(l2:List eE):Option ((List eE)×Int):=
 some (if eX a0 a1 then match bz a1 [] a0 l2 with|some r=>(r,0)|none=>([],1) else([],1))
theorem mJ.calls(a0 a1:Int)(A2:Option Addr)(c2:Nat)(l2 r1:List eE)(r2:Int)(w:World)(zc:Kd.C zb w A2 l2.length l2)(Lu:l2.length≤c2)(h:mJ.f a0 a1 l2=some (r1,r2)):
 Calls Tryz.prog 106 #[.int .i64 a0,.int .i64 a1,.slice A2 l2.length c2] w fun e w'=>∃kT:Value,e= .returned (.tuple #[kT,.int .i64 r2])∧Kd.R zb 66 w' w.heap.size (fun _=>True) kT r1∧Below w.heap.size w w':=by
 have ON:∀(fn:Fn)(first cap:Array Value)(w:World),(Instr.makeFunc fn first cap).run Tryz.prog w= .ok (.func fn first cap) w:=fun _ _ _ _=>rfl;unfold mJ.f at h;have h:=Option.some.inj h;have WG:=ak zc;clear zc Lu
 by_cases he:eX a0 a1
 ·rw[if_pos he] at h;have HE:=ak he;clear he;cases hw:bz a1 [] a0 l2 with
  |some r=>
   rw[hw] at h;simp only[Prod.mk.injEq] at h;obtain⟨rfl,rfl⟩:=h;have HW:=ak hw;clear hw;go_enter Tryz.func106,Tryz.ntmps106
   go_wp2_with(go_at_call 47;refine(jC.calls a0 a1 A2 c2 l2 w.heap.size w _ WG.1 HE.1 (aI w _) (ab (Below.refl _ _) _) (Nat.le_refl _)).mono ?_;intro e w2 hx;obtain⟨rfl,⟨v2,uN,zc⟩,iq⟩:=hx;have HR:=ak (zc _ HW.1);have HB:=ak iq;have Lu:w2.cell? ⟨w.heap.size,0,none⟩=some v2:=(ah uN 0).trans rfl;rw[HW.1];clear zc iq uN)
   go_ret2;exact⟨v2,rfl,HR.1,HB.1⟩
  |none=>
   rw[hw] at h;simp only[Prod.mk.injEq] at h;obtain⟨rfl,rfl⟩:=h;have HW:=ak hw;clear hw;go_enter Tryz.func106,Tryz.ntmps106
   go_wp2_with(go_at_call 47;refine(jC.calls a0 a1 A2 c2 l2 w.heap.size w _ WG.1 HE.1 (aI w _) (ab (Below.refl _ _) _) (Nat.le_refl _)).mono ?_;intro e w2 hx;obtain⟨rfl,⟨v2,uN,zc⟩,iq⟩:=hx;have HB:=ak iq;have Lu:w2.cell? ⟨w.heap.size,0,none⟩=some v2:=(ah uN 0).trans rfl;rw[HW.1];clear zc iq uN)
   go_ret2;exact⟨_,rfl,Kd.lN _ _ _ _ _,HB.1⟩
 ·rw[if_neg he] at h;simp only[Prod.mk.injEq] at h;obtain⟨rfl,rfl⟩:=h;have HE:=ak he;clear he;go_enter Tryz.func106,Tryz.ntmps106
  go_wp2_with(go_at_call 47;refine(jC.no a0 a1 A2 c2 l2.length _ _ HE.1).mono ?_;rintro e w2 ⟨rfl,rfl⟩)
  go_ret2;exact⟨_,rfl,Kd.lN _ _ _ _ _,ab (Below.refl _ _) _⟩
theorem yu.calls(at_ e_:Int)(w:World):Calls Tryz.prog 48 #[.int .i64 at_,.int .i64 e_] w fun e w'=>e= .returned (.tuple #[])∧w=w':=by
 go_enter Tryz.func48,Tryz.ntmps48;go_wp2
 go_end0
 exact⟨rfl,rfl⟩
theorem jC.asks(fr tt:Int)(A2:Option Addr)(c2:Nat)(l2:List eE)(w0 w:World)(zc:Kd.C zb w0 A2 l2.length l2)(he:eX fr tt)(hB:Below w0.heap.size w0 w):
 Calls Tryz.prog 47 #[.int .i64 fr,.int .i64 tt,.slice A2 l2.length c2,.func (.func 48) #[] #[]] w (fun e w'=>e= .returned (.bool (bz tt [] fr l2).isSome)∧Below w0.heap.size w0 w'):=by
 have hu:=Tryz.underlying66;obtain⟨h1,h2,h3,h4,h5⟩:=he;have e4:(fr%4==0)=true:=beq_iff_eq.2 h4;have e5:(tt%4==0)=true:=beq_iff_eq.2 h5;have HE4:=ak e4;have HE5:=ak e5;have WG:=ak zc;have HB:=ak hB;clear e4 e5 zc hB h4 h5;go_enter Tryz.func47,Tryz.ntmps47
 go_wp2_with(go_at_call 87;first|(refine(fz.calls fr h1 _ HE4.1 _).mono ?_;rintro e w' ⟨rfl,rfl⟩)|(refine(fz.calls tt (by omega) _ HE5.1 _).mono ?_;rintro e w' ⟨rfl,rfl⟩))
 go_loopw [9,36] (fun x i wr=>∃(k:Nat)(a:Int)(acc:List eE),i= .int .i64 k∧x= .int .i64 a∧oo tt fr l2 acc k a∧ae (Below w0.heap.size w0 wr)) (fun _ i _=>l2.length-(intOf i).toNat)
 case atStart=>exact⟨0,fr,[],rfl,rfl,⟨by omega,h1,h2,by simp,by omega,rfl⟩,HB⟩
 case round=>
  obtain⟨k,a,acc,rfl,rfl,HA,HB⟩:=hrel;have ha:=HA.ha;have ha2:=HA.ha2;have hl:=HA.hl;have hk4:=HA.h4
  by_cases cX:k<l2.length
  ·obtain⟨ad,e_,oe,oq⟩:=oZ (Kd.aj WG.1 HB.1) (k:Int) (by omega) (by omega);cases e_;rw[Int.toNat_natCast] at oe oq;have Ax:=ak (fun hf=>HA.next cX hf);have vI:=ak (fun hf=>HA.bad cX hf);clear HA;generalize bU l2 (k:Int)=s at oe oq Ax vI;obtain⟨s0,s1⟩:=s
   by_cases c1:s0<a
   ·have HN:=ak (vI.1 (fun z=>by have:=z.1;simp only at this;omega));clear Ax vI;go_wp2;go_ret;rw[HN.1];exact⟨rfl,ab HB.1 _⟩
   ·by_cases c2:tt<s0
    ·have HN:=ak (vI.1 (fun z=>by obtain⟨z1,z2,z3,z4,z5,z6⟩:=z;simp only at z1 z2 z3 z4 z5 z6;omega));clear Ax vI;go_wp2;go_ret;rw[HN.1];exact⟨rfl,ab HB.1 _⟩
    ·by_cases c3:s1<4
     ·have HN:=ak (vI.1 (fun z=>by obtain⟨z1,z2,z3,z4,z5,z6⟩:=z;simp only at z1 z2 z3 z4 z5 z6;omega));clear Ax vI;go_wp2;go_ret;rw[HN.1];exact⟨rfl,ab HB.1 _⟩
     ·by_cases c4:tt-s0<s1
      ·have HN:=ak (vI.1 (fun z=>by obtain⟨z1,z2,z3,z4,z5,z6⟩:=z;simp only at z1 z2 z3 z4 z5 z6;omega));clear Ax vI;go_wp2;go_ret;rw[HN.1];exact⟨rfl,ab HB.1 _⟩
      ·by_cases c5:s0%4=0
       ·by_cases c6:s1%4=0
        ·have HN:=ak (Ax.1 ⟨by simp only;omega,by simp only;omega,by simp only;omega,by simp only;omega,c5,c6⟩);have Jw:=ak (show(s0%4==0)=true from beq_iff_eq.2 c5);have TM:=ak (show(s1%4==0)=true from beq_iff_eq.2 c6);clear Ax vI c5 c6;have hk:k<512:=by omega
         have d1:¬s0<a:=c1
         go_wp2_with(first|(go_at_call 87;first|(refine(fz.calls s0 (by omega) _ Jw.1 _).mono ?_;rintro e w' ⟨rfl,rfl⟩)|(refine(fz.calls s1 (by omega) _ TM.1 _).mono ?_;rintro e w' ⟨rfl,rfl⟩))|(go_at_call 48;refine(yu.calls a s0 _).mono ?_;rintro e w2 ⟨rfl,rfl⟩))
         go_roundw
         case rel=>exact⟨k+1,s0+s1,_,by go_num,rfl,HN.1,⟨ab HB.1 _⟩⟩
         case measure=>simp [intOf];omega
        ·have Jw:=ak (show(s0%4==0)=true from beq_iff_eq.2 c5);have TM:=ak (show(s1%4==0)=false from beq_eq_false_iff_ne.2 c6);have HN:=ak (vI.1 (fun z=>by obtain⟨z1,z2,z3,z4,z5,z6⟩:=z;simp only at z1 z2 z3 z4 z5 z6;omega));clear Ax vI
         go_wp2_with(go_at_call 87;first|(refine(fz.calls s0 (by omega) _ Jw.1 _).mono ?_;rintro e w' ⟨rfl,rfl⟩)|(refine(fz.calls s1 (by omega) _ TM.1 _).mono ?_;rintro e w' ⟨rfl,rfl⟩))
         go_ret;rw[HN.1];exact⟨rfl,ab HB.1 _⟩
       ·have Jw:=ak (show(s0%4==0)=false from beq_eq_false_iff_ne.2 c5);have HN:=ak (vI.1 (fun z=>by obtain⟨z1,z2,z3,z4,z5,z6⟩:=z;simp only at z1 z2 z3 z4 z5 z6;omega));clear Ax vI
        go_wp2_with(go_at_call 87;(refine(fz.calls s0 (by omega) _ Jw.1 _).mono ?_;rintro e w' ⟨rfl,rfl⟩))
        go_ret;rw[HN.1];exact⟨rfl,ab HB.1 _⟩
  ·have HN:=ak (HA.done cX);clear HA
   go_wp2_with(go_at_call 48;refine(yu.calls a tt _).mono ?_;rintro e w2 ⟨rfl,rfl⟩)
   go_ret;rw[HN.1];exact⟨rfl,HB.1⟩
def lG.f(a0 a1:Int)(l2:List eE):Option Bool:=
 some (if eX a0 a1 then(bz a1 [] a0 l2).isSome else false)
theorem lG.calls(a0 a1:Int)(A2:Option Addr)(c2:Nat)(l2:List eE)(r:Bool)(w:World)(zc:Kd.C zb w A2 l2.length l2)(Lu:l2.length≤c2)(h:lG.f a0 a1 l2=some r):
 Calls Tryz.prog 23 #[.int .i64 a0,.int .i64 a1,.slice A2 l2.length c2] w fun e w'=>e= .returned (.bool r)∧Below w.heap.size w w':=by
 unfold lG.f at h;obtain rfl:=Option.some.inj h;have WG:=ak zc;clear zc Lu h
 by_cases he:eX a0 a1
 ·rw[if_pos he];have HE:=ak he;clear he;go_enter Tryz.func23,Tryz.ntmps23
  go_wp2_with(go_at_call 47;refine(jC.asks a0 a1 A2 c2 l2 w _ WG.1 HE.1 (Below.refl _ _)).mono ?_;rintro e w2 ⟨rfl,iq⟩)
  go_ret;exact⟨rfl,iq⟩
 ·rw[if_neg he];have HE:=ak he;clear he;go_enter Tryz.func23,Tryz.ntmps23
  go_wp2_with(go_at_call 47;refine(jC.no a0 a1 A2 c2 l2.length _ _ HE.1).mono ?_;rintro e w2 ⟨rfl,rfl⟩)
  go_ret;exact⟨rfl,Below.refl _ _⟩
end Go.Proofs.YtmhdcgmfbjcndaaGreatDoor.P
