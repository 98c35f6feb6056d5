import Derived.Test.YtmhdcgmfbjcndaaGreatDoorB10
import Derived.Deep.DrawnRows
import Derived.Deep.RegionLawGrows
set_option linter.unusedVariables false
set_option linter.unusedSimpArgs false
set_option maxRecDepth 100000
set_option maxHeartbeats 8000000
namespace Go.Proofs.YtmhdcgmfbjcndaaGreatDoor.P
open Go.RowKit Go.Proofs.aa.ag Go.Proofs.aa.ao Go.Proofs.aa.ay
attribute [local go_sem↓] Go.wp_at_zero Go.wp_at_succ
def kj(x:cU):List Value:=[.int .i64 x.f0,.bool x.f1,.bool x.f2,.int .i64 x.f3,.int .i64 x.f4]
theorem qU(x:cU):(kj x).length=5:=rfl
theorem qV:∀l:List cU,(l.flatMap kj).length=l.length*5
 |[]=>rfl
 |x::l=>by rw[List.flatMap_cons,List.length_append,qV l,List.length_cons,qU];omega
theorem te:∀(l:List cU)(j:Nat)(u:Value),(l.flatMap kj)[j]? =some u→∃p,l[j/5]? =some p∧(kj p)[j%5]? =some u
 |[],j,u,h=>by simp at h
 |x::l,j,u,h=>by
  rw[List.flatMap_cons] at h
  by_cases c:j<5
  ·rw[List.getElem?_append_left (by rw[qU];exact c)] at h;exact⟨x,by rw[show j/5=0 by omega];rfl,by rw[show j%5=j by omega];exact h⟩
  ·rw[List.getElem?_append_right (by rw[qU];omega),qU] at h;obtain⟨p,hp,hq⟩:=te l (j-5) u h;exact⟨p,by rw[show j/5=(j-5)/5+1 by omega,List.getElem?_cons_succ];exact hp,by rw[show j%5=(j-5)%5 by omega];exact hq⟩
theorem Nc(w:World)(base:Nat)(ok:Nat→Prop)(l:List cU):fg ((gW).M w base ok) 5 l (l.flatMap kj):=by
 refine⟨qV l,fun j p hp=>?_⟩;have hj:j<l.length:=(List.getElem?_eq_some_iff.mp hp).1
 have:((l.flatMap kj).drop (j*5)).take 5=kj p:=by
  apply List.ext_getElem?;intro i;rw[List.getElem?_take]
  by_cases c:i<5
  ·rw[if_pos c,List.getElem?_drop];have cX:j*5+i<(l.flatMap kj).length:=by rw[qV];omega
   obtain⟨q,Wy,Tu⟩:=te l (j*5+i) _ (List.getElem?_eq_getElem cX);rw[show(j*5+i)/5=j by omega,hp] at Wy;rw[show(j*5+i)%5=i by omega,←Option.some.inj Wy] at Tu;rw[List.getElem?_eq_getElem cX,Tu]
  ·rw[if_neg c,List.getElem?_eq_none (by rw[qU];omega)]
 show(gW).M _ _ _ p _;rw[this];exact tS _ _ _ p
theorem block_add(a:Addr)(j:Nat):(a.add j).block=a.block:=by cases a;unfold Addr.add;first|rfl|(split<;>rfl)
theorem CG{W w1:World}(hg:W.grownBy w1 none){b o:Nat}(h:b<W.heap.size):w1.cell? ⟨b,o,none⟩=W.cell? ⟨b,o,none⟩:=World.cell?_of_block (w:=W) (hg.block b h (by simp))
theorem qd(w:World)(o o':Obj):((w.alloc o).alloc o').drew.heap[w.heap.size+1]? =some o':=by
 have e:(w.alloc o).heap.size=w.heap.size+1:=by simp
 rw[←e];exact heap_alloc_new (w.alloc o) o'
theorem WS{w1:World}{b base n:Nat}{v:Value}{l:List cU}{s:cU}(h:w1.ownsRow b 43 5 v (n+1) ((l.take n).flatMap kj++kj s))(hb:base≤b)(hn:n≤l.length):Kd.R gW 43 w1 base (fun _=>True) v (l.take n++[s]):=by
 have e:(l.take n).flatMap kj++kj s=(l.take n++[s]).flatMap kj:=by rw[List.flatMap_append];simp
 have el:(l.take n++[s]).length=n+1:=by rw[List.length_append,List.length_take,Nat.min_eq_left hn];rfl
 rw[e] at h;refine⟨fun _ _=>trivial,_,?_,Nc _ _ _ _⟩;rw[el];refine⟨h.1,?_⟩;rcases h.2 with h2|⟨g,cap,cur,h3,h4,h5⟩
 ·exact .inl h2
 ·exact .inr ⟨g,cap,cur,h3,Nat.le_trans hb h4,h5⟩
theorem ZD{α:Type}(d:Kd α)(w:World)(A:Option Addr){m:Nat}(h:m=0):Kd.C d w A m ([]:List α):=by subst h;exact⟨rfl,by omega,fun h=>absurd h (by omega)⟩
theorem CH(l:List cU)(n j:Nat)(u:Value)(h:((l.take n).flatMap kj)[j]? =some u):(l.flatMap kj)[j]? =some u:=by
 have e:l.flatMap kj=(l.take n).flatMap kj++(l.drop n).flatMap kj:=by rw[←List.flatMap_append,List.take_append_drop]
 rw[e,List.getElem?_append_left (List.getElem?_eq_some_iff.mp h).1];exact h
theorem TV{w:World}{A:Option Addr}{l:List cU}(h:Kd.C gW w A l.length l)(hl:0<l.length):
 ∃ad,A=some ad∧∀j u,(l.flatMap kj)[j]? =some u→w.cell? (ad.add j)=some u:=by
 obtain⟨ad,rfl,hc⟩:=h.2.2 hl;refine⟨ad,rfl,fun j u hu=>?_⟩;obtain⟨p,hp,hq⟩:=te l j u hu;obtain⟨c,oK,hK,lZ⟩:=hc (j/5) p hp;rw[vE hK] at lZ;have:=lZ (j%5) u hq;change w.cell? (ad.add (j/5*5+j%5))=some u at this
 rwa [show j/5*5+j%5=j by omega] at this
def jD.f(l0:List cU)(a1 qW:Int)(qX qY:Bool)(qZ q':Int):Option (List cU):=
 if 0≤a1∧a1<l0.length∧l0.length<1000000 then some (l0.set a1.toNat ⟨qW,qX,qY,qZ,q'⟩) else none
theorem jD.calls(A0:Option Addr)(c0:Nat)(l0:List cU)(a1 qW:Int)(qX qY:Bool)(qZ q':Int)(r:List cU)(w:World)(fS:Kd.C gW w A0 l0.length l0)(jr:l0.length≤c0)(h:jD.f l0 a1 qW qX qY qZ q'=some r):
 Calls Tryz.prog 176 #[.slice A0 l0.length c0,.int .i64 a1,.agg #[.int .i64 qW,.bool qX,.bool qY,.int .i64 qZ,.int .i64 q']] w fun e w'=>∃kT:Value,e= .returned kT∧Kd.R gW 43 w' w.heap.size (fun _=>True) kT r∧Below w.heap.size w w':=by
 unfold jD.f at h;split at h
 ·rename_i hb
  obtain⟨h0,h1,JM⟩:=hb;obtain rfl:=Option.some.inj h;obtain⟨n,rfl⟩:∃n:Nat,a1=(n:Int):=⟨a1.toNat,by omega⟩;have hn:n<l0.length:=by omega
  have Jh:(n:Int)≤(c0:Int):=by omega
  have WB:(n:Int)+1≤(l0.length:Int):=by omega
  have hlc:(l0.length:Int)≤(c0:Int):=by omega
  have q1:IntKind.i64.wrap ((n:Int)+1)=(n:Int)+1:=by rw[IntKind.wrap_i64];omega
  have q2:((n:Int)+1).toNat=n+1:=by omega
  have q3:(0:Int)≤(n:Int)+1:=by omega
  have hlen:0<l0.length:=by omega
  obtain⟨ad,rfl,iJ⟩:=TV fS hlen;go_enter Tryz.func176,Tryz.ntmps176
  have Lw:ad.block<w.heap.size:=by
   have hl5:0<(l0.flatMap kj).length:=by rw[qV];omega
   exact World.block_lt_of_cell? w _ (iJ 0 _ (List.getElem?_eq_getElem hl5))
  have HTD:=ak (show l0.take n++[⟨qW,qX,qY,qZ,q'⟩]++l0.drop (n+1)=l0.set n (⟨qW,qX,qY,qZ,q'⟩:cU) by rw[List.set_eq_take_append_cons_drop,if_pos hn];simp)
  by_cases lZ:c0=n+1
  ·have HLN:=ak (show l0.length=n+1 by omega);have hdz:ae (l0.drop (n+1)=[]):=⟨List.drop_eq_nil_of_le (by omega)⟩;have ala:(((n:Int)+1)=(c0:Int))=True:=eq_true (by omega);have adO:(n:Int)+1≤(c0:Int):=by omega
   clear lZ;obtain⟨i0,td,yY,qC,uh⟩:=info_parts oX;have HLO:=ak (show((l0.take n).flatMap kj).length=n*5 by rw[qV,List.length_take,Nat.min_eq_left (by omega)]);have jb:=ak fS;have HC:=ak iJ;have HAD:=ak Lw;have HN:=ak hn;have JN:=ak JM;clear fS iJ h Lw hlen
   go_wp2_with fail
   go_region_held3 (fun w'=>w'.cell? ⟨w.heap.size,0,none⟩=some (.int .i64 qW)∧w'.cell? ⟨w.heap.size,1,none⟩=some (.bool qX)∧w'.cell? ⟨w.heap.size,2,none⟩=some (.bool qY)∧w'.cell? ⟨w.heap.size,3,none⟩=some (.int .i64 qZ)∧w'.cell? ⟨w.heap.size,4,none⟩=some (.int .i64 q')) (first|go_keep|(go_split_ands;refine⟨?_,?_,?_,?_,?_⟩<;>(rw[CG Gs (by simp<;>omega)];simp))|(go_split_ands;refine⟨?_,?_,?_,?_,?_⟩<;>(rw[Below.cell nS.1 (by simp)];simp))) (((first|(refine step_append_grows rfl (.tmp 10) (.tmp 12) 24 rfl 43 i0 _ 5 _ Tryz.underlying24 td yY qC uh rfl (by omega) (some ad) n n ((l0.take n).flatMap kj) (by rfl) (fun e=>nomatch e) HLO.1 (fun b e j u hu=>by cases e;exact(Below.cell (w:=w) ((((Below.refl _ _).alloc (Nat.le_refl _) _).drew).alloc (by simp) _) (p:=(ad.add j)) (by rw[block_add];exact HAD.1)).trans (HC.1 j u (CH l0 n j u hu))) ⟨w.heap.size+1,0,none⟩ 1 1 [.int .i64 qW,.bool qX,.bool qY,.int .i64 qZ,.int .i64 q'] (by rfl) (by rfl) (World.news_of_block (cs:= #[.int .i64 qW,.bool qX,.bool qY,.int .i64 qZ,.int .i64 q']) (t:=43) (fr:=(0,0)) (qd w _ _)) (by simp [Value.oneCell']) (by omega) (by have:=HN.1;have:=JN.1;unfold maxLen;omega) (by have:=HN.1;have:=JN.1;omega) ?_;intro v1 w1 Ab Gs;have CI:=ak (WS (base:=w.heap.size+1) (l:=l0) (n:=n) (s:=⟨qW,qX,qY,qZ,q'⟩) Ab (by simp<;>omega) (Nat.le_of_lt HN.1));have kC:=ak (Below.grown (B:=w.heap.size+1) (a:=w.alloc (.cells #[.int .i64 qW,.bool qX,.bool qY,.int .i64 qZ,.int .i64 q'] 43)) (((Below.refl _ _).alloc (by simp) _).drew) Gs (by simp<;>omega) (fun k e=>nomatch e)))|(refine Kd.br gW (w0:=w.alloc (.cells #[.int .i64 qW,.bool qX,.bool qY,.int .i64 qZ,.int .i64 q'] 43)) (w.heap.size+1) (by rfl) (.tmp 13) (.tmp 17) 24 43 (.agg #[.int .i64 0,.bool false,.bool false,.int .i64 0,.int .i64 0]) 32 (by rfl) Tryz.underlying24 oX rfl (by decide) (by omega) v1 (l0.take n++[⟨qW,qX,qY,qZ,q'⟩]) [] _ _ _ (fun _=>True) (fun _=>False) (by rfl) (by rfl) CI.1 (ZD _ _ _ (ow HLN)) (fun _ _ h=>h) (fun _ h=>h.elim) (fun _ _=>trivial) kC.1 (by have:=kC.1.size;simp at this<;>omega) (by rw[List.length_append,List.length_take,List.length_singleton];have:=JN.1;have:=HN.1;have:=HLN.1;omega) ?_;intro v2 w2 xt iq uN vH;have FN:=ak xt;have nS:=ak iq;clear xt iq uN vH))))
   all_goals go_wp2
   all_goals
    go_ret;exact⟨_,rfl,by(try rw[Int.toNat_natCast]);rw[←HTD.1,hdz.1];exact Kd.bO FN.1 (by omega),((Below.refl _ _).alloc (Nat.le_refl _) _).trans (nS.1.mono (by omega))⟩
  ·have HD:=ak (show Kd.C gW w (some (ad.add ((n+1)*5))) (l0.length-(n+1)) (l0.drop (n+1)) by
    have:=Kd.Jl fS (m:=n+1) (by omega) jr;rw[if_neg lZ,List.length_drop] at this;exact this)
   have ala:¬((n:Int)+1=(c0:Int)):=by omega
   have adO:(n:Int)+1≤(c0:Int):=by omega
   obtain⟨i0,td,yY,qC,uh⟩:=info_parts oX;have HLO:=ak (show((l0.take n).flatMap kj).length=n*5 by rw[qV,List.length_take,Nat.min_eq_left (by omega)]);have jb:=ak fS;have HC:=ak iJ;have HAD:=ak Lw;have HN:=ak hn;have JN:=ak JM;clear fS iJ h Lw hlen
   go_wp2_with fail
   go_region_held3 (fun w'=>w'.cell? ⟨w.heap.size,0,none⟩=some (.int .i64 qW)∧w'.cell? ⟨w.heap.size,1,none⟩=some (.bool qX)∧w'.cell? ⟨w.heap.size,2,none⟩=some (.bool qY)∧w'.cell? ⟨w.heap.size,3,none⟩=some (.int .i64 qZ)∧w'.cell? ⟨w.heap.size,4,none⟩=some (.int .i64 q')) (first|go_keep|(go_split_ands;refine⟨?_,?_,?_,?_,?_⟩<;>(rw[CG Gs (by simp<;>omega)];simp))|(go_split_ands;refine⟨?_,?_,?_,?_,?_⟩<;>(rw[Below.cell nS.1 (by simp)];simp))) (((first|(refine step_append_grows rfl (.tmp 10) (.tmp 12) 24 rfl 43 i0 _ 5 _ Tryz.underlying24 td yY qC uh rfl (by omega) (some ad) n n ((l0.take n).flatMap kj) (by rfl) (fun e=>nomatch e) HLO.1 (fun b e j u hu=>by cases e;exact(Below.cell (w:=w) ((((Below.refl _ _).alloc (Nat.le_refl _) _).drew).alloc (by simp) _) (p:=(ad.add j)) (by rw[block_add];exact HAD.1)).trans (HC.1 j u (CH l0 n j u hu))) ⟨w.heap.size+1,0,none⟩ 1 1 [.int .i64 qW,.bool qX,.bool qY,.int .i64 qZ,.int .i64 q'] (by rfl) (by rfl) (World.news_of_block (cs:= #[.int .i64 qW,.bool qX,.bool qY,.int .i64 qZ,.int .i64 q']) (t:=43) (fr:=(0,0)) (qd w _ _)) (by simp [Value.oneCell']) (by omega) (by have:=HN.1;have:=JN.1;unfold maxLen;omega) (by have:=HN.1;have:=JN.1;omega) ?_;intro v1 w1 Ab Gs;have CI:=ak (WS (base:=w.heap.size+1) (l:=l0) (n:=n) (s:=⟨qW,qX,qY,qZ,q'⟩) Ab (by simp<;>omega) (Nat.le_of_lt HN.1));have kC:=ak (Below.grown (B:=w.heap.size+1) (a:=w.alloc (.cells #[.int .i64 qW,.bool qX,.bool qY,.int .i64 qZ,.int .i64 q'] 43)) (((Below.refl _ _).alloc (by simp) _).drew) Gs (by simp<;>omega) (fun k e=>nomatch e)))|(refine Kd.br gW (w0:=w.alloc (.cells #[.int .i64 qW,.bool qX,.bool qY,.int .i64 qZ,.int .i64 q'] 43)) (w.heap.size+1) (by rfl) (.tmp 13) (.tmp 17) 24 43 (.agg #[.int .i64 0,.bool false,.bool false,.int .i64 0,.int .i64 0]) 32 (by rfl) Tryz.underlying24 oX rfl (by decide) (by omega) v1 (l0.take n++[⟨qW,qX,qY,qZ,q'⟩]) (l0.drop (n+1)) _ _ _ (fun _=>True) (fun _=>False) (by rfl) (by rfl) CI.1 (Kd.aj HD.1 ((((Below.refl _ _).alloc (Nat.le_refl _) _)).trans (kC.1.mono (by omega)))) (fun _ _ h=>h) (fun _ h=>h.elim) (fun _ _=>trivial) kC.1 (by have:=kC.1.size;simp at this<;>omega) (by rw[List.length_append,List.length_take,List.length_singleton];have:=JN.1;have:=HN.1;omega) ?_;intro v2 w2 xt iq uN vH;have FN:=ak xt;have nS:=ak iq;clear xt iq uN vH))))
   all_goals go_wp2
   all_goals
    go_ret;exact⟨_,rfl,by rw[Int.toNat_natCast,←HTD.1];exact Kd.bO FN.1 (by omega),((Below.refl _ _).alloc (Nat.le_refl _) _).trans (nS.1.mono (by omega))⟩
 ·cases h
end Go.Proofs.YtmhdcgmfbjcndaaGreatDoor.P
namespace Go.Proofs.YtmhdcgmfbjcndaaGreatDoor.P
open Go.RowKit Go.Proofs.aa.ag Go.Proofs.aa.ao Go.Proofs.aa.ay
attribute [local go_sem] bD bw cj bV bj bk bG bH
attribute [local go_sem high] WT
def dR.j0:Nat→Bool→Int→Bool→Bool→Int→Int→Option Bool
 |0,_,_,_,_,_,_=>none
 |k+1,x3,aip,Lx,TW,DU,DV=>if x3=true then some false else if Lx=true then if DU≥0 then if DU≤2048 then if DV≥1 then some (decide (DV≤2048)) else some false else some false else some false else some (!Lx&&(!TW&&(DU==0&&(DV==0))))
def dR.f(k:Nat)(az:Int)(ax aA:Bool)(aC aV:Int):Option Bool:=if az<0 then dR.j0 k true az ax aA aC aV else dR.j0 k (decide (az>65535)) az ax aA aC aV
theorem dR.calls(k:Nat)(az:Int)(ax aA:Bool)(aC aV:Int)(r:Bool)(w:World)(h:dR.f k az ax aA aC aV=some r):
 Calls Tryz.prog 78 #[.agg #[.int .i64 az,.bool ax,.bool aA,.int .i64 aC,.int .i64 aV]] w fun e w'=>e= .returned (.bool r)∧Below w.heap.size w w':=by
 have D':=Tryz.underlying43;have HB:=ak (Below.refl w.heap.size w);have H:=ak h;clear h;unfold dR.f at H;go_enter Tryz.func78,Tryz.ntmps78
 go_upto_region 1 with((with_reducible refine gd 1 ?_);refine bx 43 #[.int .i64 az,.bool ax,.bool aA,.int .i64 aC,.int .i64 aV] ?_;intro adP hg w3 eh hb;have iR:=qb hb;have iT:=ak (eh);have jQ:=qg hg;have lP:=qg hg;clear HB;have HB:=iR;have ux:=iT;have apH:=jQ;have apI:=lP;clear iR iT jQ lP;clear hb eh hg)
 (try simp only[Act.put,List.setIfInBounds_toArray,List.set_cons_zero,List.set_cons_succ])
 go_cut [3] (fun v3 wc=>∃(kq:Nat)(jg:Bool),v3= .bool jg∧ae (dR.j0 kq jg az ax aA aC aV=some r)∧ae (kq≤k)∧ae (wc.heap[adP]? =some (.cells #[.int .i64 az,.bool ax,.bool aA,.int .i64 aC,.int .i64 aV] 43 (0,0)))∧ae (Below w.heap.size w wc))
 case first=>
  replace H:=ic H;rcases H with⟨jP,H⟩|⟨jP,H⟩
  ·(first|rw[jP]|(simp only[bp,bF];rw[jP])|skip);obtain⟨Ea,Eb⟩:=cf ux;go_wp2;go_meet
   case rel=>exact⟨_,true,rs,H,⟨by first|omega|exact Nat.le_refl _⟩,⟨bu ux⟩,⟨bl⟩⟩
  ·(first|rw[jP]|(simp only[bp,bF];rw[jP])|skip);obtain⟨JO,JP⟩:=cf ux;go_wp2;go_meet
   case rel=>exact⟨_,(decide (az>65535)),rs,H,⟨by first|omega|exact Nat.le_refl _⟩,⟨bu ux⟩,⟨bl⟩⟩
 case rest=>
  clear H;obtain⟨kq,jg,rfl,H,JQ,ux,HB⟩:=hcut;cases kq with
  |zero=>exact absurd H.1 (by simp [dR.j0])
  |succ Ec=>
   simp only[dR.j0] at H;replace H:=ib H;rcases H with⟨rfl,H⟩|⟨rfl,H⟩
   ·obtain rfl:=s1 H;go_wp2;go_ret;exact⟨re,bl⟩
   ·replace H:=ib H;rcases H with⟨rfl,H⟩|⟨rfl,H⟩
    ·replace H:=ic H;rcases H with⟨AB,H⟩|⟨AB,H⟩
     ·replace H:=ic H;rcases H with⟨yx,H⟩|⟨yx,H⟩
      ·replace H:=ic H;rcases H with⟨WU,H⟩|⟨WU,H⟩
       ·obtain rfl:=s1 H;obtain⟨zC,zD⟩:=cf ux;go_wp2;go_ret;exact⟨re,bl⟩
       ·obtain rfl:=s1 H;obtain⟨pV,pW⟩:=cf ux;go_wp2;go_ret;exact⟨re,bl⟩
      ·obtain rfl:=s1 H;obtain⟨pX,pY⟩:=cf ux;go_wp2;go_ret;exact⟨re,bl⟩
     ·obtain rfl:=s1 H;obtain⟨ni,nj⟩:=cf ux;go_wp2;go_ret;exact⟨re,bl⟩
    ·obtain rfl:=s1 H;obtain⟨ot,ou⟩:=cf ux;go_wp2;go_ret;exact⟨re,bl⟩
end Go.Proofs.YtmhdcgmfbjcndaaGreatDoor.P
namespace Go.Proofs.YtmhdcgmfbjcndaaGreatDoor.P
open Go.RowKit Go.Proofs.aa.ag Go.Proofs.aa.ao Go.Proofs.aa.ay
attribute [local go_sem] bD bw cj bV bj bk bG bH
def bW.l0:Nat→List cU→List cU→Int→Int→Option Bool
 |0,_,_,_,_=>none
 |k+1,x0,x7,x8,x9=>if x9<x8 then(if 0≤x9 then(if x9<(x7.length:Int) then(dR.f k ((aM x7 x9).f0) ((aM x7 x9).f1) ((aM x7 x9).f2) ((aM x7 x9).f3) ((aM x7 x9).f4)).bind fun t139=>(if t139=true then bW.l0 k x0 x7 x8 (wrap64 (x9+1)) else some false) else none) else none) else((kW.f (x0.length:Int)).bind fun adR=>(some (adR.2==0)))
def bW.f(k:Nat)(l0:List cU):Option Bool:=bW.l0 k l0 l0 (l0.length:Int) 0
theorem bW.calls(k:Nat)(A0:Option Addr)(c0:Nat)(l0:List cU)(r:Bool)(w:World)(fS:Kd.C gW w A0 l0.length l0)(jr:l0.length≤c0)(h:bW.f k l0=some r):
 Calls Tryz.prog 40 #[.slice A0 l0.length c0] w fun e w'=>e= .returned (.bool r)∧Below w.heap.size w w':=by
 have D':=Tryz.underlying43;have jb:=ak fS;have uj:=ak jr;clear fS jr;have HB:=ak (Below.refl w.heap.size w);have H:=ak h;clear h;unfold bW.f at H;go_enter Tryz.func40,Tryz.ntmps40;go_wp2
 go_loopg [9] k (fun kq v9 w'=>∃(cH:Int),v9= .int .i64 cH∧ae (bW.l0 kq l0 l0 (l0.length:Int) cH=some r)∧ae (kq≤k)∧ae (Below w.heap.size w w'))
 case atStart=>exact⟨0,rs,H,⟨Nat.le_refl _⟩,⟨bl⟩⟩
 case round=>
  clear H;obtain⟨cH,rfl,H,iB,HB⟩:=hrel;cases gk with
  |zero=>exact absurd H.1 (by simp [bW.l0])
  |succ k1=>
   simp only[bW.l0] at H;replace H:=ic H;rcases H with⟨mC,H⟩|⟨mC,H⟩
   ·replace H:=iO H;obtain⟨kU,H⟩:=H;replace H:=iO H;obtain⟨jP,H⟩:=H;replace H:=bI H;obtain⟨t139,A5,H⟩:=H;(try dsimp only at H);replace H:=ib H;rcases H with⟨rfl,H⟩|⟨rfl,H⟩
    ·obtain⟨adS,ZE,TX,TY,TZ,T2,T3⟩:=gq (cw jb) cH dt dt;cases ZE;have ald:=tp (0≤(cH:Int));have ale:=tp (cH<(l0.length:Int))
     go_wp2_with(first|((with_reducible refine gd 4 ?_);refine bY 43 #[.int .i64 0,.bool false,.bool false,.int .i64 0,.int .i64 0] fun adT w7 AE adU HB=>?_;obtain⟨uR,uS⟩:=cf AE)|((with_reducible refine gc 78 ?_);refine gl 14 Tryz.func78 #[.agg #[.int .i64 ((aM l0 cH).f0),.bool ((aM l0 cH).f1),.bool ((aM l0 cH).f2),.int .i64 ((aM l0 cH).f3),.int .i64 ((aM l0 cH).f4)]] ?_;(with_reducible refine(dR.calls k1 ((aM l0 cH).f0) ((aM l0 cH).f1) ((aM l0 cH).f2) ((aM l0 cH).f3) ((aM l0 cH).f4) true _ A5.1).mono ?_);rintro e w9 ⟨rfl,hb⟩;refine⟨_,rfl,?_⟩;replace AE:=pb AE hb;replace HB:=qb hb;clear hb))
     go_roundg k1
     case measure=>have:=iB.1;omega
     case rel=>exact⟨(wrap64 (cH+1)),rs,H,⟨by have:=iB.1;omega⟩,⟨bl⟩⟩
    ·obtain rfl:=s1 H;obtain⟨adS,ZE,TX,TY,TZ,T2,T3⟩:=gq (cw jb) cH dt dt;cases ZE;have ald:=tp (0≤(cH:Int));have ale:=tp (cH<(l0.length:Int))
     go_wp2_with(first|((with_reducible refine gd 4 ?_);refine bY 43 #[.int .i64 0,.bool false,.bool false,.int .i64 0,.int .i64 0] fun adT rN AE adU HB=>?_;obtain⟨km,ko⟩:=cf AE)|((with_reducible refine gc 78 ?_);refine gl 14 Tryz.func78 #[.agg #[.int .i64 ((aM l0 cH).f0),.bool ((aM l0 cH).f1),.bool ((aM l0 cH).f2),.int .i64 ((aM l0 cH).f3),.int .i64 ((aM l0 cH).f4)]] ?_;(with_reducible refine(dR.calls k1 ((aM l0 cH).f0) ((aM l0 cH).f1) ((aM l0 cH).f2) ((aM l0 cH).f3) ((aM l0 cH).f4) false _ A5.1).mono ?_);rintro e SQ ⟨rfl,hb⟩;refine⟨_,rfl,?_⟩;replace AE:=pb AE hb;replace HB:=qb hb;clear hb))
     go_ret;exact⟨re,bl⟩
   ·replace H:=bI H;obtain⟨⟨t140,t141⟩,A13,H⟩:=H;(try dsimp only at H);obtain rfl:=s1 H
    go_wp2_with((with_reducible refine gc 37 ?_);refine gl 20 Tryz.func37 #[.int .i64 (l0.length:Int)] ?_;(with_reducible refine(kW.calls (l0.length:Int) t140 t141 _ A13.1).mono ?_);rintro e ZF ⟨atn,rfl,gu,hb⟩;refine⟨_,rfl,?_⟩;have apJ:=ak (Kd.bO gu (aq bl));replace HB:=qb hb;clear hb;(try clear gu))
    go_ret;exact⟨re,bl⟩
end Go.Proofs.YtmhdcgmfbjcndaaGreatDoor.P
