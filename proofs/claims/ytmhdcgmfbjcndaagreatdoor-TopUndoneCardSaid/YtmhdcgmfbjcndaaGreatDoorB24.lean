import Derived.Test.YtmhdcgmfbjcndaaGreatDoorB12
import Derived.Test.YtmhdcgmfbjcndaaGreatDoorB20
import Derived.Test.YtmhdcgmfbjcndaaGreatDoorB23
set_option linter.unusedVariables false
set_option linter.unusedSimpArgs false
set_option maxRecDepth 100000
set_option maxHeartbeats 8000000
namespace Go.Proofs.YtmhdcgmfbjcndaaGreatDoor.Pure
open Go.RowKit Go.Proofs.YtmhdcgmfbjcndaaGreatDoor.P Go.Proofs.aa.ag Go.Proofs.aa.ao
def AV(n:Int)(o o':fl):Prop:=∀q:Nat,(q:Int)<n→mO n q o=true→mO n q o'=true→
 (dK n o.f0 o.f1).2.2.1=true∧(dK n o'.f0 o'.f1).2.2.1=true∧(dK n o.f0 o.f1).2.2.2.1=(dK n o'.f0 o'.f1).2.2.2.1∧(dK n o.f0 o.f1).2.2.2.2.1≠(dK n o'.f0 o'.f1).2.2.2.2.1
theorem AV.symm{n:Int}{o o':fl}(h:AV n o o'):AV n o' o:=fun q hq h1 h2=>by
 obtain⟨a,b,c,d⟩:=h q hq h2 h1;exact⟨b,a,c.symm,Ne.symm d⟩
def Valid(n:Int)(o:fl):Prop:=(dK n o.f0 o.f1).2.2.2.2.2=true
theorem LP{n:Nat}{l:List fl}{ks:List Int}{cs:List Nat}(h:Inv n l ks cs){o:fl}(ho:Valid n o):(kp (dK n o.f0 o.f1) ks cs).isSome=true↔∀o'∈l,AV n o o':=by
 rcases yA ho with⟨s1,s2,p,k,ha,hk,hp,e⟩|⟨s1,s2,p,ha,hp,hm,e⟩
 ·have hh:∀q:Nat,mO n q o=decide ((p:Int)=q):=fun q=>AR e;have hA:=h.at_ p (by omega);have hc:=jt o.f1;have hhp:mO n p o=true:=by rw[hh];exact decide_eq_true rfl
  rw[e];unfold kp;simp only[if_true,Int.toNat_natCast,Ep];constructor
  ·intro hs o' sS q hq h1 h2;rw[hh] at h1;have epq:p=q:=by have:=of_decide_eq_true h1;omega
   subst epq;rw[e];rcases hA with⟨g0,g⟩|⟨g0,g1,_,g3,g4⟩|⟨g0,g1,g2,g3⟩
   ·rw[g o' sS] at h2;cases h2
   ·obtain⟨a,b⟩:=g3 o' sS h2;split at hs
    ·rename_i tT
     refine⟨rfl,a,by rw[b];exact tT.1.symm,fun he=>?_⟩;have hb:=GP tT.2;have:=(g4 k).2 ⟨o',sS,h2,he.symm⟩;rw[hb] at this;cases this
    ·split at hs
     ·omega
     ·cases hs
   ·split at hs
    ·omega
    ·split at hs
     ·omega
     ·cases hs
  ·intro rR;rcases hA with⟨g0,g⟩|⟨g0,g1,⟨o',sS,h2⟩,g3,g4⟩|⟨g0,g1,g2,g3⟩
   ·split
    ·rfl
    ·first|rfl|(rw[if_pos g0];rfl)
   ·have Qn:=rR o' sS p hp hhp h2;rw[e] at Qn;obtain⟨a,b⟩:=g3 o' sS h2;have oK:ks.getD p 0=cG o.f1:=by rw[←b];exact Qn.2.2.1.symm
    have xQ:(cs.getD p 0).testBit k=false:=by
     cases hb:(cs.getD p 0).testBit k with
     |false=>rfl
     |true=>
      obtain⟨x,hx,wj,CT⟩:=(g4 k).1 hb;have:=rR x hx p hp hhp wj;rw[e] at this;exact absurd CT.symm this.2.2.2
    rw[if_pos ⟨oK,testBit_and xQ⟩];rfl
   ·have Up:0<l.countP (mO n p):=by omega
    obtain⟨o',sS,h2⟩:=List.countP_pos_iff.1 Up;have Qn:=rR o' sS p hp hhp h2;rw[g3 o' sS h2] at Qn;cases Qn.2.1
 ·have hh:∀q:Nat,mO n q o=decide ((p:Int)≤q∧(q:Int)<p+(o.f1+255)/256):=fun q=>CS e;rw[e];unfold kp;simp only[Bool.false_eq_true,if_false,Int.toNat_natCast];have hm0:(((o.f1+255)/256).toNat:Int)=(o.f1+255)/256:=Int.toNat_of_nonneg (by omega);constructor
  ·intro hs o' sS q hq h1 h2;split at hs
   ·rename_i hf
    rw[hh] at h1;have Tu:=of_decide_eq_true h1;have nB:=AK hf (i:=q-p) (by omega);rw[show p+(q-p)=q by omega] at nB;rcases h.at_ q (by omega) with⟨g0,g⟩|⟨g0,g1,_,g3,g4⟩|⟨g0,g1,g2,g3⟩
    ·rw[g o' sS] at h2;cases h2
    ·omega
    ·omega
   ·cases hs
  ·intro rR;rw[if_pos (AQ fun j hj=>?_)]
   ·rfl
   ·have hhj:mO n (p+j:Nat) o=true:=by rw[hh];exact decide_eq_true (by omega)
    rcases h.at_ (p+j) (by omega) with⟨g0,g⟩|⟨g0,g1,⟨o',sS,h2⟩,g3,g4⟩|⟨g0,g1,g2,g3⟩
    ·exact g0
    ·have Qn:=rR o' sS (p+j) (by omega) hhj h2;rw[e] at Qn;cases Qn.1
    ·have Up:0<l.countP (mO n (p+j:Nat)):=by omega
     obtain⟨o',sS,h2⟩:=List.countP_pos_iff.1 Up;have Qn:=rR o' sS (p+j) (by omega) hhj h2;rw[e] at Qn;cases Qn.1
theorem LQ{α:Type}{P:List α→Prop}(h0:P [])(h1:∀l o,P l→P (l++[o]))(l:List α):P l:=by
 have:∀l:List α,P l.reverse:=by
  intro l
  induction l with
  |nil=>exact h0
  |cons a l ih=>rw[List.reverse_cons];exact h1 _ _ ih
 have:=this l.reverse
 rwa [List.reverse_reverse] at this
theorem GQ(n:Int)(l:List fl):(laid n l).isSome=true↔(0≤n∧n≤64)∧(∀o∈l,Valid n o)∧l.Pairwise (AV n):=by
 constructor
 ·intro h;obtain⟨st,Ca⟩:=Option.isSome_iff_exists.1 h;have h0:=nL Ca;obtain⟨m,rfl⟩:∃m:Nat,n=m:=⟨n.toNat,by omega⟩;refine⟨⟨h0.1,h0.2.1⟩,(AU Ca).ok,?_⟩;clear h h0;revert st;refine LQ (P:=fun l=>∀st,laid (m:Int) l=some st→l.Pairwise (AV m)) (fun _ _=>List.Pairwise.nil) (fun l o ih st Ca=>?_) l;rw[xR] at Ca;obtain⟨s1,h1,h2⟩:=Option.bind_eq_some_iff.1 Ca;split at h2
  ·rename_i ho
   have hp:=(LP (AU h1) (o:=o) ho).1 (by rw[h2];rfl);rw[List.pairwise_append];refine⟨ih s1 h1,List.pairwise_singleton _ _,fun a ha b hb=>?_⟩;rw[List.mem_singleton.1 hb];exact(hp a ha).symm
  ·cases h2
 ·rintro⟨h0,hv,hp⟩;obtain⟨m,rfl⟩:∃m:Nat,n=m:=⟨n.toNat,by omega⟩;revert hv hp;refine LQ (P:=fun l=>(∀o∈l,Valid m o)→l.Pairwise (AV m)→(laid m l).isSome=true) (fun _ _=>by unfold laid;rw[if_pos h0];rfl) (fun l o ih hv hp=>?_) l;rw[List.pairwise_append] at hp;have:=ih (fun x hx=>hv x (List.mem_append_left _ hx)) hp.1;obtain⟨s1,h1⟩:=Option.isSome_iff_exists.1 this;rw[xR,h1,Option.bind_some];have ho:Valid m o:=hv o (by simp);have sS:(dK (m:Int) o.f0 o.f1).2.2.2.2.2=true:=ho;rw[if_pos sS];exact(LP (AU h1) ho).2 fun a ha=>(hp.2.2 a ha o (by simp)).symm
theorem GS(n:Int)(a b:List fl)(o:fl)(h:(laid n ((a++b)++[o])).isSome=true):(laid n (a++o::b)).isSome=true:=by
 obtain⟨h0,hv,hp⟩:=(GQ _ _).1 h
 have Gr:((a++b)++[o]).Perm (a++o::b):=by
  rw[List.append_assoc];exact List.Perm.append_left a (List.perm_append_comm)
 refine(GQ _ _).2 ⟨h0,fun x hx=>hv x (Gr.mem_iff.2 hx),(Gr.pairwise_iff (fun h=>h.symm)).1 hp⟩
end Go.Proofs.YtmhdcgmfbjcndaaGreatDoor.Pure
namespace Go.Proofs.YtmhdcgmfbjcndaaGreatDoor.P
open Go.RowKit Go.Proofs.aa.ag Go.Proofs.aa.ao Go.Proofs.aa.ay
attribute [local go_sem] bD bw cj bV bj bk bG bH
def ei.f(k:Nat)(az ax aA aC:Int):Option (Int×Int×Int×Int×Int×Int×Int×Int×Int×Int):=(bZ.f k az ax aA aC).bind fun t107=>(if t107=true then(lU.f az ax aA aC).bind fun qp=>(if qp.2.2.2.2.2.2.2.2>4096 then some (0,0,0,0,0,0,0,0,0,1) else(df.f k qp.1 qp.2.1 qp.2.2.1 qp.2.2.2.2.2.2.2.2).bind fun t118=>(if t118=true then some (qp.1,qp.2.1,qp.2.2.1,qp.2.2.2.1,qp.2.2.2.2.1,qp.2.2.2.2.2.1,qp.2.2.2.2.2.2.1,qp.2.2.2.2.2.2.2.1,qp.2.2.2.2.2.2.2.2,0) else some (0,0,0,0,0,0,0,0,0,1))) else some (0,0,0,0,0,0,0,0,0,1))
theorem ei.mono:∀a0 a1 a2 a3 k,sL (ei.f k a0 a1 a2 a3) (ei.f (k+1) a0 a1 a2 a3):=by
 intro a0 a1 a2 a3 k;unfold ei.f;have SK:= @bZ.mono;have ih1:= @df.mono;exact lm
theorem ei.calls(k:Nat)(az ax aA aC r1 r2 r3 r4 r5 r6 r7 r8 r9 ZW:Int)(w:World)(h:ei.f k az ax aA aC=some (r1,r2,r3,r4,r5,r6,r7,r8,r9,ZW)):
 Calls Tryz.prog 30 #[.agg #[.int .i64 az,.int .i64 ax,.int .i64 aA,.int .i64 aC]] w fun e w'=>e= .returned (.tuple #[.agg #[.int .i64 r1,.int .i64 r2,.int .i64 r3,.int .i64 r4,.int .i64 r5,.int .i64 r6,.int .i64 r7,.int .i64 r8,.int .i64 r9],.int .i64 ZW])∧Below w.heap.size w w':=by
 have ND:=Tryz.underlying23;have alC:=Tryz.underlying82;have alB:=Tryz.underlying80;have HB:=ak (Below.refl w.heap.size w);have H:=ak h;clear h;unfold ei.f at H;replace H:=bI H;obtain⟨t107,A2,H⟩:=H;(try dsimp only at H);replace H:=ib H;rcases H with⟨rfl,H⟩|⟨rfl,H⟩
 ·replace H:=bI H;obtain⟨⟨t108,t109,t110,t111,t112,t113,t114,t115,t116⟩,A4,H⟩:=H;(try dsimp only at H);replace H:=ic H;rcases H with⟨iG,H⟩|⟨iG,H⟩
  ·obtain⟨rfl,rfl,rfl,rfl,rfl,rfl,rfl,rfl,rfl,rfl⟩:=SJ H;go_enter Tryz.func30,Tryz.ntmps30
   go_wp2_with(first|((with_reducible refine gd 1 ?_);refine bY 23 #[.int .i64 az,.int .i64 ax,.int .i64 aA,.int .i64 aC] fun Qo w6 eC Qp HB=>?_)|((with_reducible refine gd 2 ?_);refine bX 82 #[.int .i64 0,.int .i64 0,.int .i64 0,.int .i64 0,.int .i64 0,.int .i64 0,.int .i64 0,.int .i64 0,.int .i64 0] fun AX w7 gN Qq HB hg hb=>?_;obtain⟨mQ,mR⟩:=nn eC hg;replace eC:=qk eC hb;clear hb hg;have alD:=mQ.1;have alE:=mR.1;obtain⟨po,pq⟩:=cf eC)|((with_reducible refine gc 57 ?_);refine gl 6 Tryz.func57 #[.agg #[.int .i64 az,.int .i64 ax,.int .i64 aA,.int .i64 aC]] ?_;(with_reducible refine(bZ.calls k az ax aA aC true _ A2.1).mono ?_);rintro e rN ⟨rfl,hb⟩;refine⟨_,rfl,?_⟩;replace eC:=qk eC hb;replace gN:=qk gN hb;replace HB:=qb hb;clear hb;obtain⟨km,ko⟩:=cf eC)|((with_reducible refine gc 58 ?_);refine gl 10 Tryz.func58 #[.agg #[.int .i64 az,.int .i64 ax,.int .i64 aA,.int .i64 aC]] ?_;(with_reducible refine(lU.calls az ax aA aC t108 t109 t110 t111 t112 t113 t114 t115 t116 _ A4.1).mono ?_);rintro e SQ ⟨rfl,hb⟩;refine⟨_,rfl,?_⟩;replace eC:=qk eC hb;replace gN:=qk gN hb;replace HB:=qb hb;clear hb)|((with_reducible refine gd 4 ?_);refine bX 82 #[.int .i64 0,.int .i64 0,.int .i64 0,.int .i64 0,.int .i64 0,.int .i64 0,.int .i64 0,.int .i64 0,.int .i64 0] fun Xg WW uA Xh HB hg hb=>?_;obtain⟨rl,rm⟩:=nn eC hg;replace eC:=qk eC hb;obtain⟨rp,rq⟩:=nn gN hg;replace gN:=qk gN hb;clear hb hg;have Xi:=rm.1;have Xj:=rl.1;have Qr:=rq.1;have Qs:=rp.1;obtain⟨ot,ou⟩:=cf uA;obtain⟨vP,vQ⟩:=cf gN))
   refine bodyPost_ret (fY rfl _ _ AX 82 #[.int .i64 0,.int .i64 0,.int .i64 0,.int .i64 0,.int .i64 0,.int .i64 0,.int .i64 0,.int .i64 0,.int .i64 0] (0,0) _ rfl pk Tryz.underlying82 rfl (by kernel_rfl)) rfl ?_;exact⟨re,bl⟩
  ·replace H:=bI H;obtain⟨t118,A18,H⟩:=H;(try dsimp only at H);replace H:=ib H;rcases H with⟨rfl,H⟩|⟨rfl,H⟩
   ·obtain⟨rfl,rfl,rfl,rfl,rfl,rfl,rfl,rfl,rfl,rfl⟩:=SJ H;go_enter Tryz.func30,Tryz.ntmps30
    go_wp2_with(first|((with_reducible refine gd 1 ?_);refine bY 23 #[.int .i64 az,.int .i64 ax,.int .i64 aA,.int .i64 aC] fun Qo w20 eC Qp HB=>?_)|((with_reducible refine gd 2 ?_);refine bX 82 #[.int .i64 0,.int .i64 0,.int .i64 0,.int .i64 0,.int .i64 0,.int .i64 0,.int .i64 0,.int .i64 0,.int .i64 0] fun AX WX gN Qq HB hg hb=>?_;obtain⟨mQ,mR⟩:=nn eC hg;replace eC:=qk eC hb;clear hb hg;have aen:=mQ.1;have aeo:=mR.1;obtain⟨LV,LW⟩:=cf eC)|((with_reducible refine gc 57 ?_);refine gl 6 Tryz.func57 #[.agg #[.int .i64 az,.int .i64 ax,.int .i64 aA,.int .i64 aC]] ?_;(with_reducible refine(bZ.calls k az ax aA aC true _ A2.1).mono ?_);rintro e ZX ⟨rfl,hb⟩;refine⟨_,rfl,?_⟩;replace eC:=qk eC hb;replace gN:=qk gN hb;replace HB:=qb hb;clear hb;obtain⟨vU,vV⟩:=cf eC)|((with_reducible refine gc 58 ?_);refine gl 10 Tryz.func58 #[.agg #[.int .i64 az,.int .i64 ax,.int .i64 aA,.int .i64 aC]] ?_;(with_reducible refine(lU.calls az ax aA aC t108 t109 t110 t111 t112 t113 t114 t115 t116 _ A4.1).mono ?_);rintro e w26 ⟨rfl,hb⟩;refine⟨_,rfl,?_⟩;replace eC:=qk eC hb;replace gN:=qk gN hb;replace HB:=qb hb;clear hb)|((with_reducible refine gd 4 ?_);refine bX 82 #[.int .i64 0,.int .i64 0,.int .i64 0,.int .i64 0,.int .i64 0,.int .i64 0,.int .i64 0,.int .i64 0,.int .i64 0] fun Xg w27 uA Xh HB hg hb=>?_;obtain⟨rl,rm⟩:=nn eC hg;replace eC:=qk eC hb;obtain⟨rp,rq⟩:=nn gN hg;replace gN:=qk gN hb;clear hb hg;have PQ:=rm.1;have PR:=rl.1;have aqi:=rq.1;have aqj:=rp.1;obtain⟨vW,vX⟩:=cf uA)|(go_at_call 59;(with_reducible refine(df.calls k t108 t109 t110 t116 true _ A18.1).mono ?_);rintro e LX ⟨rfl,hb⟩;replace eC:=qk eC hb;replace gN:=qk gN hb;replace uA:=pb uA hb;replace HB:=qb hb;clear hb;obtain⟨LY,LZ⟩:=cf uA;obtain⟨Ur,Us⟩:=cf gN))
    refine bodyPost_ret (fY rfl _ _ AX 82 #[.int .i64 t108,.int .i64 t109,.int .i64 t110,.int .i64 t111,.int .i64 t112,.int .i64 t113,.int .i64 t114,.int .i64 t115,.int .i64 t116] (0,0) _ rfl pk Tryz.underlying82 rfl (by kernel_rfl)) rfl ?_;exact⟨re,bl⟩
   ·obtain⟨rfl,rfl,rfl,rfl,rfl,rfl,rfl,rfl,rfl,rfl⟩:=SJ H;go_enter Tryz.func30,Tryz.ntmps30
    go_wp2_with(first|((with_reducible refine gd 1 ?_);refine bY 23 #[.int .i64 az,.int .i64 ax,.int .i64 aA,.int .i64 aC] fun Qo w34 eC Qp HB=>?_)|((with_reducible refine gd 2 ?_);refine bX 82 #[.int .i64 0,.int .i64 0,.int .i64 0,.int .i64 0,.int .i64 0,.int .i64 0,.int .i64 0,.int .i64 0,.int .i64 0] fun AX w35 gN Qq HB hg hb=>?_;obtain⟨mQ,mR⟩:=nn eC hg;replace eC:=qk eC hb;clear hb hg;have aqk:=mQ.1;have aql:=mR.1;obtain⟨aiR,aiS⟩:=cf eC)|((with_reducible refine gc 57 ?_);refine gl 6 Tryz.func57 #[.agg #[.int .i64 az,.int .i64 ax,.int .i64 aA,.int .i64 aC]] ?_;(with_reducible refine(bZ.calls k az ax aA aC true _ A2.1).mono ?_);rintro e w38 ⟨rfl,hb⟩;refine⟨_,rfl,?_⟩;replace eC:=qk eC hb;replace gN:=qk gN hb;replace HB:=qb hb;clear hb;obtain⟨aiT,aiU⟩:=cf eC)|((with_reducible refine gc 58 ?_);refine gl 10 Tryz.func58 #[.agg #[.int .i64 az,.int .i64 ax,.int .i64 aA,.int .i64 aC]] ?_;(with_reducible refine(lU.calls az ax aA aC t108 t109 t110 t111 t112 t113 t114 t115 t116 _ A4.1).mono ?_);rintro e w40 ⟨rfl,hb⟩;refine⟨_,rfl,?_⟩;replace eC:=qk eC hb;replace gN:=qk gN hb;replace HB:=qb hb;clear hb)|((with_reducible refine gd 4 ?_);refine bX 82 #[.int .i64 0,.int .i64 0,.int .i64 0,.int .i64 0,.int .i64 0,.int .i64 0,.int .i64 0,.int .i64 0,.int .i64 0] fun Xg w41 uA Xh HB hg hb=>?_;obtain⟨rl,rm⟩:=nn eC hg;replace eC:=qk eC hb;obtain⟨rp,rq⟩:=nn gN hg;replace gN:=qk gN hb;clear hb hg;have aqm:=rm.1;have aqn:=rl.1;have aqo:=rq.1;have aqp:=rp.1;obtain⟨aiV,aiW⟩:=cf uA)|(go_at_call 59;(with_reducible refine(df.calls k t108 t109 t110 t116 false _ A18.1).mono ?_);rintro e w45 ⟨rfl,hb⟩;replace eC:=qk eC hb;replace gN:=qk gN hb;replace uA:=pb uA hb;replace HB:=qb hb;clear hb;obtain⟨aiX,aiY⟩:=cf gN))
    refine bodyPost_ret (fY rfl _ _ AX 82 #[.int .i64 0,.int .i64 0,.int .i64 0,.int .i64 0,.int .i64 0,.int .i64 0,.int .i64 0,.int .i64 0,.int .i64 0] (0,0) _ rfl pk Tryz.underlying82 rfl (by kernel_rfl)) rfl ?_;exact⟨re,bl⟩
 ·obtain⟨rfl,rfl,rfl,rfl,rfl,rfl,rfl,rfl,rfl,rfl⟩:=SJ H;go_enter Tryz.func30,Tryz.ntmps30
  go_wp2_with(first|((with_reducible refine gd 1 ?_);refine bY 23 #[.int .i64 az,.int .i64 ax,.int .i64 aA,.int .i64 aC] fun Qo w47 eC Qp HB=>?_)|((with_reducible refine gd 2 ?_);refine bX 82 #[.int .i64 0,.int .i64 0,.int .i64 0,.int .i64 0,.int .i64 0,.int .i64 0,.int .i64 0,.int .i64 0,.int .i64 0] fun AX w48 gN Qq HB hg hb=>?_;obtain⟨mQ,mR⟩:=nn eC hg;replace eC:=qk eC hb;clear hb hg;have aqq:=mQ.1;have aqr:=mR.1;obtain⟨aiZ,ai0⟩:=cf eC)|((with_reducible refine gc 57 ?_);refine gl 6 Tryz.func57 #[.agg #[.int .i64 az,.int .i64 ax,.int .i64 aA,.int .i64 aC]] ?_;(with_reducible refine(bZ.calls k az ax aA aC false _ A2.1).mono ?_);rintro e w51 ⟨rfl,hb⟩;refine⟨_,rfl,?_⟩;replace eC:=qk eC hb;replace gN:=qk gN hb;replace HB:=qb hb;clear hb;obtain⟨ai1,ai2⟩:=cf gN))
  refine bodyPost_ret (fY rfl _ _ AX 82 #[.int .i64 0,.int .i64 0,.int .i64 0,.int .i64 0,.int .i64 0,.int .i64 0,.int .i64 0,.int .i64 0,.int .i64 0] (0,0) _ rfl pk Tryz.underlying82 rfl (by kernel_rfl)) rfl ?_;exact⟨re,bl⟩
def kJ.f(k:Nat)(az ax aA aC aV aX:Int)(aw:List cU)(aD:List dJ)(aG:List (List Int))(a1:Bool)(a2:Int):Option (Int×Bool):=if a1=true then(dG.f k az ax aA aC aV aX aw aD aG).bind fun afa=>((kH.f k aX afa.1 a2).bind fun XF=>(some (XF.1,XF.2))) else(fN.f k az ax aA aC aV aX aw aD aG a2).bind fun XG=>(some (XG.1,XG.2))
theorem kJ.calls(k:Nat)(az ax aA aC aV aX:Int)(cN:Option Addr)(cF:Nat)(aw:List cU)(cy:Option Addr)(cA:Nat)(aD:List dJ)(cC:Option Addr)(cB:Nat)(aG:List (List Int))(a1:Bool)(a2 r1:Int)(r2:Bool)(w:World)(dZ:Kd.C gW w cN aw.length aw)(ef:aw.length≤cF)(eb:Kd.C gQ w cy aD.length aD)(en:aD.length≤cA)(dL:Kd.C (Kd.slice 5 (Kd.int .u8)) w cC aG.length aG)(ew:aG.length≤cB)(h:kJ.f k az ax aA aC aV aX aw aD aG a1 a2=some (r1,r2)):
 Calls Tryz.prog 190 #[.agg #[.int .i64 az,.int .i64 ax,.int .i64 aA,.int .i64 aC,.int .i64 aV,.int .i64 aX,.slice cN aw.length cF,.slice cy aD.length cA,.slice cC aG.length cB],.bool a1,.int .i64 a2] w fun e w'=>e= .returned (.tuple #[.int .i64 r1,.bool r2])∧Below w.heap.size w w':=by
 have Ba:=Tryz.underlying28;have fD:=ak dZ;have i':=ak ef;clear dZ ef;have iw:=ak eb;have ji:=ak en;clear eb en;have ix:=ak dL;have jS:=ak ew;clear dL ew;have HB:=ak (Below.refl w.heap.size w);have H:=ak h;clear h;unfold kJ.f at H;replace H:=ib H;rcases H with⟨rfl,H⟩|⟨rfl,H⟩
 ·replace H:=bI H;obtain⟨⟨aap,al9⟩,A5,H⟩:=H;(try dsimp only at H);replace H:=bI H;obtain⟨⟨al',ama⟩,A6,H⟩:=H;(try dsimp only at H);obtain⟨rfl,rfl⟩:=s2 H;go_enter Tryz.func190,Tryz.ntmps190
  go_wp2_with(first|((with_reducible refine gd 3 ?_);refine bY 28 #[.int .i64 az,.int .i64 ax,.int .i64 aA,.int .i64 aC,.int .i64 aV,.int .i64 aX,.slice cN aw.length cF,.slice cy aD.length cA,.slice cC aG.length cB] fun afb w7 uF afc HB=>?_;obtain⟨uR,uS⟩:=cf uF)|((with_reducible refine gc 21 ?_);refine gl 19 Tryz.func21 #[.agg #[.int .i64 az,.int .i64 ax,.int .i64 aA,.int .i64 aC,.int .i64 aV,.int .i64 aX,.slice cN aw.length cF,.slice cy aD.length cA,.slice cC aG.length cB]] ?_;(with_reducible refine(dG.calls k az ax aA aC aV aX _ _ aw _ _ aD _ _ aG aap al9 _ (cu fD) i'.1 (cu iw) ji.1 (cu ix) jS.1 A5.1).mono ?_);rintro e w9 ⟨auG,auH,rfl,gu,ho1,hb⟩;refine⟨_,rfl,?_⟩;have Hm:=ak (Kd.bO gu (aq bl));have XH:=ak (Kd.bO ho1 (aq bl));replace uF:=qk uF hb;replace HB:=qb hb;clear hb;(try clear gu);(try clear ho1);obtain⟨tX,tY⟩:=cf uF;obtain⟨lJ,lK,Ke⟩:=Kd.bm Hm.1;subst Ke)|((with_reducible refine gc 197 ?_);refine gl 26 Tryz.func197 #[.int .i64 aX,.slice lJ aap.length lK,.int .i64 a2] ?_;(with_reducible refine(kH.calls k aX _ _ aap a2 al' ama _ ?di ((Kd.aW Hm.1).2.1) A6.1).mono ?_);(case di=>repeat (first|exact(Kd.aW Hm.1).2.2|(with_reducible refine Kd.cD ?_ _)|(with_reducible refine Kd.cE ?_ _)|(with_reducible refine Kd.cY ?_)));rintro e SQ ⟨rfl,hb⟩;refine⟨_,rfl,?_⟩;replace Hm:=qr Hm hb;replace XH:=qr XH hb;replace uF:=qk uF hb;replace HB:=qb hb;clear hb))
  go_ret2;exact⟨re,bl⟩
 ·replace H:=bI H;obtain⟨⟨amb,amc⟩,A13,H⟩:=H;(try dsimp only at H);obtain⟨rfl,rfl⟩:=s2 H;go_enter Tryz.func190,Tryz.ntmps190
  go_wp2_with(first|((with_reducible refine gd 3 ?_);refine bY 28 #[.int .i64 az,.int .i64 ax,.int .i64 aA,.int .i64 aC,.int .i64 aV,.int .i64 aX,.slice cN aw.length cF,.slice cy aD.length cA,.slice cC aG.length cB] fun afb ZF uF afc HB=>?_;obtain⟨ni,nj⟩:=cf uF)|((with_reducible refine gc 196 ?_);refine gl 14 Tryz.func196 #[.agg #[.int .i64 az,.int .i64 ax,.int .i64 aA,.int .i64 aC,.int .i64 aV,.int .i64 aX,.slice cN aw.length cF,.slice cy aD.length cA,.slice cC aG.length cB],.int .i64 a2] ?_;(with_reducible refine(fN.calls k az ax aA aC aV aX _ _ aw _ _ aD _ _ aG a2 amb amc _ (cu fD) i'.1 (cu iw) ji.1 (cu ix) jS.1 A13.1).mono ?_);rintro e M9 ⟨rfl,hb⟩;refine⟨_,rfl,?_⟩;replace uF:=qk uF hb;replace HB:=qb hb;clear hb))
  go_ret2;exact⟨re,bl⟩
end Go.Proofs.YtmhdcgmfbjcndaaGreatDoor.P
namespace Go.Proofs.YtmhdcgmfbjcndaaGreatDoor.P
open Go.RowKit Go.Proofs.aa.ag Go.Proofs.aa.ao Go.Proofs.aa.ay
attribute [local go_sem] bD bw cj bV bj bk bG bH
attribute [local go_sem high] aej
def eJ.f(k:Nat)(az ax aA aC:Int):Option Bool:=(ei.f k az ax aA aC).bind fun uB=>(if uB.2.2.2.2.2.2.2.2.2=0 then some ((!(uB.1==0)||(!(uB.2.1==0)||(!(uB.2.2.1==0))))||(!(uB.2.2.2.1==0)||(!(uB.2.2.2.2.1==0)||(!(uB.2.2.2.2.2.1==0)||(!(uB.2.2.2.2.2.2.1==0)||(!(uB.2.2.2.2.2.2.2.1==0)||(!(uB.2.2.2.2.2.2.2.2.1==0)))))))) else some false)
theorem eJ.mono:∀a0 a1 a2 a3 k,sL (eJ.f k a0 a1 a2 a3) (eJ.f (k+1) a0 a1 a2 a3):=by
 intro a0 a1 a2 a3 k;unfold eJ.f;have SK:= @ei.mono;exact lm
theorem eJ.calls(k:Nat)(az ax aA aC:Int)(r:Bool)(w:World)(h:eJ.f k az ax aA aC=some r):
 Calls Tryz.prog 39 #[.agg #[.int .i64 az,.int .i64 ax,.int .i64 aA,.int .i64 aC]] w fun e w'=>e= .returned (.bool r)∧Below w.heap.size w w':=by
 have ND:=Tryz.underlying23;have alC:=Tryz.underlying82;have HB:=ak (Below.refl w.heap.size w);have H:=ak h;clear h;unfold eJ.f at H;replace H:=bI H;obtain⟨⟨t120,t121,t122,t123,t124,t125,t126,t127,t128,t129⟩,A2,H⟩:=H;(try dsimp only at H);replace H:=iC H;rcases H with⟨c3,H⟩|⟨c3,H⟩
 ·have kU:(t129==0)=true:=beq_iff_eq.mpr c3;have Eu:(t129 !=0)=false:=bne_eq_false_iff_eq.mpr c3;clear c3;obtain rfl:=s1 H;go_enter Tryz.func39,Tryz.ntmps39
  go_wp2_with(first|((with_reducible refine gd 1 ?_);refine bY 23 #[.int .i64 az,.int .i64 ax,.int .i64 aA,.int .i64 aC] fun aep w4 rr aeq HB=>?_;obtain⟨Ea,Eb⟩:=cf rr)|((with_reducible refine gc 30 ?_);refine gl 7 Tryz.func30 #[.agg #[.int .i64 az,.int .i64 ax,.int .i64 aA,.int .i64 aC]] ?_;(with_reducible refine(ei.calls k az ax aA aC t120 t121 t122 t123 t124 t125 t126 t127 t128 t129 _ A2.1).mono ?_);rintro e w6 ⟨rfl,hb⟩;refine⟨_,rfl,?_⟩;replace rr:=qk rr hb;replace HB:=qb hb;clear hb)|((with_reducible refine gd 3 ?_);refine bX 82 #[.int .i64 0,.int .i64 0,.int .i64 0,.int .i64 0,.int .i64 0,.int .i64 0,.int .i64 0,.int .i64 0,.int .i64 0] fun aer w7 Qt aes HB hg hb=>?_;obtain⟨xS,xT⟩:=nn rr hg;replace rr:=qk rr hb;clear hb hg;have alD:=xT.1;have alE:=xS.1;obtain⟨po,pq⟩:=cf Qt))
  go_ret;exact⟨re,bl⟩
 ·have kU:(t129==0)=false:=beq_eq_false_iff_ne.mpr c3;have Eu:(t129 !=0)=true:=bne_iff_ne.mpr c3;obtain rfl:=s1 H;go_enter Tryz.func39,Tryz.ntmps39
  go_wp2_with(first|((with_reducible refine gd 1 ?_);refine bY 23 #[.int .i64 az,.int .i64 ax,.int .i64 aA,.int .i64 aC] fun aep rN rr aeq HB=>?_;obtain⟨km,ko⟩:=cf rr)|((with_reducible refine gc 30 ?_);refine gl 7 Tryz.func30 #[.agg #[.int .i64 az,.int .i64 ax,.int .i64 aA,.int .i64 aC]] ?_;(with_reducible refine(ei.calls k az ax aA aC t120 t121 t122 t123 t124 t125 t126 t127 t128 t129 _ A2.1).mono ?_);rintro e SQ ⟨rfl,hb⟩;refine⟨_,rfl,?_⟩;replace rr:=qk rr hb;replace HB:=qb hb;clear hb)|((with_reducible refine gd 3 ?_);refine bX 82 #[.int .i64 0,.int .i64 0,.int .i64 0,.int .i64 0,.int .i64 0,.int .i64 0,.int .i64 0,.int .i64 0,.int .i64 0] fun aer WW Qt aes HB hg hb=>?_;obtain⟨xS,xT⟩:=nn rr hg;replace rr:=qk rr hb;clear hb hg;have Xi:=xT.1;have Xj:=xS.1;obtain⟨ni,nj⟩:=cf Qt))
  go_ret;exact⟨re,bl⟩
end Go.Proofs.YtmhdcgmfbjcndaaGreatDoor.P
namespace Go.Proofs.YtmhdcgmfbjcndaaGreatDoor.P
open Go.RowKit Go.Proofs.aa.ag Go.Proofs.aa.ao Go.Proofs.aa.ay
attribute [local go_sem] bD bw cj bV bj bk bG bH
def bM.j0:Nat→Int→Int→Bool→Int→Int→Int→Int→Option Bool
 |0,_,_,_,_,_,_,_=>none
 |k+1,x1,x2,GU,Ut,ai3,ai4,ai5=>if GU=true then some false else if x1=1 then some (x2==0) else if x1=2 then some (x2==Ut) else if x1=3 then some true else some (x1==4)
def bM.f(k:Nat)(az ax aA aC a1 a2:Int):Option Bool:=(eJ.f k az ax aA aC).bind fun t132=>(if t132=true then if a2<0 then bM.j0 k a1 a2 true az ax aA aC else bM.j0 k a1 a2 (decide (a2>az)) az ax aA aC else bM.j0 k a1 a2 true az ax aA aC)
theorem bM.pj:∀k,(∀y0 y1 y2 y3 y4 y5 y6,sL (bM.j0 k y0 y1 y2 y3 y4 y5 y6) (bM.j0 (k+1) y0 y1 y2 y3 y4 y5 y6))
 |0=>fun _ _ _ _ _ _ _ r h=>by simp [bM.j0] at h
 |k+1=>by
  have SK:=bM.pj k
  ·intro y0 y1 y2 y3 y4 y5 y6;unfold bM.j0;have ih1:= @eJ.mono;exact lm
theorem bM.mono:∀a0 a1 a2 a3 a4 a5 k,sL (bM.f k a0 a1 a2 a3 a4 a5) (bM.f (k+1) a0 a1 a2 a3 a4 a5):=by
 intro a0 a1 a2 a3 a4 a5 k;have SK:=bM.pj k;unfold bM.f;have ih1:= @eJ.mono;exact lm
theorem bM.calls(k:Nat)(az ax aA aC a1 a2:Int)(r:Bool)(w:World)(h:bM.f k az ax aA aC a1 a2=some r):
 Calls Tryz.prog 18 #[.agg #[.int .i64 az,.int .i64 ax,.int .i64 aA,.int .i64 aC],.int .i64 a1,.int .i64 a2] w fun e w'=>e= .returned (.bool r)∧Below w.heap.size w w':=by
 have ND:=Tryz.underlying23;have HB:=ak (Below.refl w.heap.size w);have H:=ak h;clear h;unfold bM.f at H;go_enter Tryz.func18,Tryz.ntmps18
 go_upto_region 1 with((with_reducible refine gd 3 ?_);refine bx 23 #[.int .i64 az,.int .i64 ax,.int .i64 aA,.int .i64 aC] ?_;intro aet hg w5 eh hb;have iR:=qb hb;have iT:=ak (eh);have jQ:=qg hg;have lP:=qg hg;clear HB;have HB:=iR;have pr:=iT;have aqs:=jQ;have aqt:=lP;clear iR iT jQ lP;clear hb eh hg)
 (try simp only[Act.put,List.setIfInBounds_toArray,List.set_cons_zero,List.set_cons_succ])
 go_cut [19] (fun ZY wc=>∃(kq:Nat)(Qu:Bool),ZY= .bool Qu∧ae (bM.j0 kq a1 a2 Qu az ax aA aC=some r)∧ae (kq≤k)∧ae (wc.heap[aet]? =some (.cells #[.int .i64 az,.int .i64 ax,.int .i64 aA,.int .i64 aC] 23 (0,0)))∧ae (Below w.heap.size w wc))
 case first=>
  replace H:=bI H;obtain⟨t132,A6,H⟩:=H;(try dsimp only at H);replace H:=ib H;rcases H with⟨rfl,H⟩|⟨rfl,H⟩
  ·replace H:=ic H;rcases H with⟨rb,H⟩|⟨rb,H⟩
   ·(first|rw[rb]|(simp only[bp,bF];rw[rb])|skip);obtain⟨po,pq⟩:=cf pr
    go_wp2_with((with_reducible refine gc 39 ?_);refine gl 8 Tryz.func39 #[.agg #[.int .i64 az,.int .i64 ax,.int .i64 aA,.int .i64 aC]] ?_;(with_reducible refine(eJ.calls k az ax aA aC true _ A6.1).mono ?_);rintro e rN ⟨rfl,hb⟩;refine⟨_,rfl,?_⟩;replace pr:=qk pr hb;replace HB:=qb hb;clear hb)
    go_meet
    case rel=>exact⟨_,true,rs,H,⟨by first|omega|exact Nat.le_refl _⟩,⟨bu pr⟩,⟨bl⟩⟩
   ·(first|rw[rb]|(simp only[bp,bF];rw[rb])|skip);obtain⟨km,ko⟩:=cf pr
    go_wp2_with((with_reducible refine gc 39 ?_);refine gl 8 Tryz.func39 #[.agg #[.int .i64 az,.int .i64 ax,.int .i64 aA,.int .i64 aC]] ?_;(with_reducible refine(eJ.calls k az ax aA aC true _ A6.1).mono ?_);rintro e SQ ⟨rfl,hb⟩;refine⟨_,rfl,?_⟩;replace pr:=qk pr hb;replace HB:=qb hb;clear hb;obtain⟨pV,pW⟩:=cf pr)
    go_meet
    case rel=>exact⟨_,(decide (a2>az)),rs,H,⟨by first|omega|exact Nat.le_refl _⟩,⟨bu pr⟩,⟨bl⟩⟩
  ·obtain⟨pX,pY⟩:=cf pr
   go_wp2_with((with_reducible refine gc 39 ?_);refine gl 8 Tryz.func39 #[.agg #[.int .i64 az,.int .i64 ax,.int .i64 aA,.int .i64 aC]] ?_;(with_reducible refine(eJ.calls k az ax aA aC false _ A6.1).mono ?_);rintro e TS ⟨rfl,hb⟩;refine⟨_,rfl,?_⟩;replace pr:=qk pr hb;replace HB:=qb hb;clear hb)
   go_meet
   case rel=>exact⟨_,true,rs,H,⟨by first|omega|exact Nat.le_refl _⟩,⟨bu pr⟩,⟨bl⟩⟩
 case rest=>
  clear H;obtain⟨kq,Qu,rfl,H,HJ3,pr,HB⟩:=hcut;cases kq with
  |zero=>exact absurd H.1 (by simp [bM.j0])
  |succ kj3=>
   simp only[bM.j0] at H;replace H:=ib H;rcases H with⟨rfl,H⟩|⟨rfl,H⟩
   ·obtain rfl:=s1 H;go_wp2;go_ret;exact⟨re,bl⟩
   ·replace H:=iC H;rcases H with⟨c17,H⟩|⟨c17,H⟩
    ·have AW:(a1==1)=true:=beq_iff_eq.mpr c17;have aeu:(a1 !=1)=false:=bne_eq_false_iff_eq.mpr c17;clear c17;obtain rfl:=s1 H;go_wp2;go_ret;exact⟨re,bl⟩
    ·have AW:(a1==1)=false:=beq_eq_false_iff_ne.mpr c17;have aeu:(a1 !=1)=true:=bne_iff_ne.mpr c17;replace H:=iC H;rcases H with⟨L0,H⟩|⟨L0,H⟩
     ·have wk:(a1==2)=true:=beq_iff_eq.mpr L0;have aev:(a1 !=2)=false:=bne_eq_false_iff_eq.mpr L0;clear L0;obtain rfl:=s1 H;obtain⟨DJ,DL⟩:=cf pr;go_wp2;go_ret;exact⟨re,bl⟩
     ·have wk:(a1==2)=false:=beq_eq_false_iff_ne.mpr L0;have aev:(a1 !=2)=true:=bne_iff_ne.mpr L0;replace H:=iC H;rcases H with⟨yB,H⟩|⟨yB,H⟩
      ·have rv:(a1==3)=true:=beq_iff_eq.mpr yB;have GV:(a1 !=3)=false:=bne_eq_false_iff_eq.mpr yB;clear yB;obtain rfl:=s1 H;go_wp2;go_ret;exact⟨re,bl⟩
      ·have rv:(a1==3)=false:=beq_eq_false_iff_ne.mpr yB;have GV:(a1 !=3)=true:=bne_iff_ne.mpr yB;obtain rfl:=s1 H;go_wp2;go_ret;exact⟨re,bl⟩
end Go.Proofs.YtmhdcgmfbjcndaaGreatDoor.P
