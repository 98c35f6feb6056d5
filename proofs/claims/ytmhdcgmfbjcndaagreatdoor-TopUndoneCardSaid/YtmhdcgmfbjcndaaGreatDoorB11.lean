import Derived.Test.YtmhdcgmfbjcndaaGreatDoorB07
import Derived.Test.YtmhdcgmfbjcndaaGreatDoorB10
set_option linter.unusedVariables false
set_option linter.unusedSimpArgs false
set_option maxRecDepth 100000
set_option maxHeartbeats 8000000
namespace Go.Proofs.YtmhdcgmfbjcndaaGreatDoor.P
open Go.RowKit Go.Proofs.aa.ag Go.Proofs.aa.ao Go.Proofs.aa.ay
attribute [local go_sem] bD bw cj bV bj bk bG bH
def cm.l0:Nat→List cU→Int→Int→Option (Int×Bool)
 |0,_,_,_=>none
 |k+1,x6,x7,x8=>if x8<x7 then(if 0≤x8 then(if x8<(x6.length:Int) then(iX.f ((aM x6 x8).f0) ((aM x6 x8).f1) ((aM x6 x8).f2) ((aM x6 x8).f3) ((aM x6 x8).f4)).bind fun t263=>(if t263=true then some (x8,true) else cm.l0 k x6 x7 (wrap64 (x8+1))) else none) else none) else some (0,false)
def cm.f(k:Nat)(l0:List cU):Option (Int×Bool):=cm.l0 k l0 (l0.length:Int) 0
theorem cm.calls(k:Nat)(A0:Option Addr)(c0:Nat)(l0:List cU)(r1:Int)(r2:Bool)(w:World)(fS:Kd.C gW w A0 l0.length l0)(jr:l0.length≤c0)(h:cm.f k l0=some (r1,r2)):
 Calls Tryz.prog 65 #[.slice A0 l0.length c0] w fun e w'=>e= .returned (.tuple #[.int .i64 r1,.bool r2])∧Below w.heap.size w w':=by
 have D':=Tryz.underlying43;have jb:=ak fS;have uj:=ak jr;clear fS jr;have HB:=ak (Below.refl w.heap.size w);have H:=ak h;clear h;unfold cm.f at H;go_enter Tryz.func65,Tryz.ntmps65;go_wp2
 go_loopg [8] k (fun kq v8 w'=>∃(jR:Int),v8= .int .i64 jR∧ae (cm.l0 kq l0 (l0.length:Int) jR=some (r1,r2))∧ae (kq≤k)∧ae (Below w.heap.size w w'))
 case atStart=>exact⟨0,rs,H,⟨Nat.le_refl _⟩,⟨bl⟩⟩
 case round=>
  clear H;obtain⟨jR,rfl,H,iB,HB⟩:=hrel;cases gk with
  |zero=>exact absurd H.1 (by simp [cm.l0])
  |succ k1=>
   simp only[cm.l0] at H;replace H:=ic H;rcases H with⟨mC,H⟩|⟨mC,H⟩
   ·replace H:=iO H;obtain⟨kU,H⟩:=H;replace H:=iO H;obtain⟨jP,H⟩:=H;replace H:=bI H;obtain⟨t263,A5,H⟩:=H;(try dsimp only at H);replace H:=ib H;rcases H with⟨rfl,H⟩|⟨rfl,H⟩
    ·obtain⟨rfl,rfl⟩:=s2 H;obtain⟨adX,ZG,T4,T',Ua,Ub,Uc⟩:=gq (cw jb) jR dt dt;cases ZG;have alg:=tp (0≤(jR:Int));have alh:=tp (jR<(l0.length:Int))
     go_wp2_with(first|((with_reducible refine gd 5 ?_);refine bY 43 #[.int .i64 0,.bool false,.bool false,.int .i64 0,.int .i64 0] fun adY w7 AF adZ HB=>?_;obtain⟨uR,uS⟩:=cf AF)|((with_reducible refine gc 102 ?_);refine gl 14 Tryz.func102 #[.agg #[.int .i64 ((aM l0 jR).f0),.bool ((aM l0 jR).f1),.bool ((aM l0 jR).f2),.int .i64 ((aM l0 jR).f3),.int .i64 ((aM l0 jR).f4)]] ?_;(with_reducible refine(iX.calls ((aM l0 jR).f0) ((aM l0 jR).f1) ((aM l0 jR).f2) ((aM l0 jR).f3) ((aM l0 jR).f4) true _ A5.1).mono ?_);rintro e w9 ⟨rfl,hb⟩;refine⟨_,rfl,?_⟩;replace AF:=pb AF hb;replace HB:=qb hb;clear hb))
     go_ret2;exact⟨re,bl⟩
    ·obtain⟨adX,ZG,T4,T',Ua,Ub,Uc⟩:=gq (cw jb) jR dt dt;cases ZG;have alg:=tp (0≤(jR:Int));have alh:=tp (jR<(l0.length:Int))
     go_wp2_with(first|((with_reducible refine gd 5 ?_);refine bY 43 #[.int .i64 0,.bool false,.bool false,.int .i64 0,.int .i64 0] fun adY rN AF adZ HB=>?_;obtain⟨km,ko⟩:=cf AF)|((with_reducible refine gc 102 ?_);refine gl 14 Tryz.func102 #[.agg #[.int .i64 ((aM l0 jR).f0),.bool ((aM l0 jR).f1),.bool ((aM l0 jR).f2),.int .i64 ((aM l0 jR).f3),.int .i64 ((aM l0 jR).f4)]] ?_;(with_reducible refine(iX.calls ((aM l0 jR).f0) ((aM l0 jR).f1) ((aM l0 jR).f2) ((aM l0 jR).f3) ((aM l0 jR).f4) false _ A5.1).mono ?_);rintro e SQ ⟨rfl,hb⟩;refine⟨_,rfl,?_⟩;replace AF:=pb AF hb;replace HB:=qb hb;clear hb))
     go_roundg k1
     case measure=>have:=iB.1;omega
     case rel=>exact⟨(wrap64 (jR+1)),rs,H,⟨by have:=iB.1;omega⟩,⟨bl⟩⟩
   ·obtain⟨rfl,rfl⟩:=s2 H;go_wp2;go_ret2;exact⟨re,bl⟩
def e9.f(a0:Int):Option (Int×Int):=(fH.f).bind fun t176=>(if a0≤t176 then some (0,1) else if a0>2048 then some (0,1) else some (wrap64 (Int.tdiv (wrap64 ((wrap64 (a0+256))-1)) 256),0))
theorem e9.calls(a0 r1 r2:Int)(w:World)(h:e9.f a0=some (r1,r2)):
 Calls Tryz.prog 168 #[.int .i64 a0] w fun e w'=>e= .returned (.tuple #[.int .i64 r1,.int .i64 r2])∧Below w.heap.size w w':=by
 have HB:=ak (Below.refl w.heap.size w);have H:=ak h;clear h;unfold e9.f at H;replace H:=bI H;obtain⟨t176,A2,H⟩:=H;(try dsimp only at H);replace H:=ic H;rcases H with⟨kU,H⟩|⟨kU,H⟩
 ·obtain⟨rfl,rfl⟩:=s2 H;go_enter Tryz.func168,Tryz.ntmps168
  go_wp2_with((with_reducible refine gc 186 ?_);refine gl 5 Tryz.func186 #[] ?_;(with_reducible refine(fH.calls t176 _ A2.1).mono ?_);rintro e w4 ⟨rfl,hb⟩;refine⟨_,rfl,?_⟩;replace HB:=qb hb;clear hb)
  go_ret2;exact⟨re,bl⟩
 ·replace H:=ic H;rcases H with⟨iG,H⟩|⟨iG,H⟩
  ·obtain⟨rfl,rfl⟩:=s2 H;go_enter Tryz.func168,Tryz.ntmps168
   go_wp2_with((with_reducible refine gc 186 ?_);refine gl 5 Tryz.func186 #[] ?_;(with_reducible refine(fH.calls t176 _ A2.1).mono ?_);rintro e w6 ⟨rfl,hb⟩;refine⟨_,rfl,?_⟩;replace HB:=qb hb;clear hb)
   go_ret2;exact⟨re,bl⟩
  ·obtain⟨rfl,rfl⟩:=s2 H;go_enter Tryz.func168,Tryz.ntmps168
   go_wp2_with((with_reducible refine gc 186 ?_);refine gl 5 Tryz.func186 #[] ?_;(with_reducible refine(fH.calls t176 _ A2.1).mono ?_);rintro e w7 ⟨rfl,hb⟩;refine⟨_,rfl,?_⟩;replace HB:=qb hb;clear hb)
   go_ret2;exact⟨re,bl⟩
def dN.l0:Nat→Int→Int→Bool→Int→List eE→Int→Int→Option (Int×Bool)
 |0,_,_,_,_,_,_,_=>none
 |k+1,x1,x4,x5,x6,sN,u',LI=>if LI<u' then(if 0≤LI then(if LI<(sN.length:Int) then if x1≥1 then if((bU sN LI).f1)≥x1 then if x5=true then if((bU sN LI).f1)<x6 then dN.l0 k x1 ((bU sN LI).f0) true ((bU sN LI).f1) sN u' (wrap64 (LI+1)) else dN.l0 k x1 x4 x5 x6 sN u' (wrap64 (LI+1)) else dN.l0 k x1 ((bU sN LI).f0) true ((bU sN LI).f1) sN u' (wrap64 (LI+1)) else dN.l0 k x1 x4 x5 x6 sN u' (wrap64 (LI+1)) else dN.l0 k x1 x4 x5 x6 sN u' (wrap64 (LI+1)) else none) else none) else some (x4,x5)
def dN.f(k:Nat)(l0:List Int)(a1:Int):Option (Int×Bool):=(lI.f l0).bind fun t185=>(dN.l0 k a1 0 false 0 t185 (t185.length:Int) 0)
theorem dN.calls(k:Nat)(A0:Option Addr)(c0:Nat)(l0:List Int)(a1 r1:Int)(r2:Bool)(w:World)(fS:Kd.C (Kd.int .i64) w A0 l0.length l0)(jr:l0.length≤c0)(h:dN.f k l0 a1=some (r1,r2)):
 Calls Tryz.prog 203 #[.slice A0 l0.length c0,.int .i64 a1] w fun e w'=>e= .returned (.tuple #[.int .i64 r1,.bool r2])∧Below w.heap.size w w':=by
 have TR:=Tryz.underlying66;have jb:=ak fS;have uj:=ak jr;clear fS jr;have HB:=ak (Below.refl w.heap.size w);have H:=ak h;clear h;unfold dN.f at H;replace H:=bI H;obtain⟨t185,A3,H⟩:=H;(try dsimp only at H);go_enter Tryz.func203,Tryz.ntmps203
 go_wp2_with(go_at_call 206;(with_reducible refine(lI.calls _ _ l0 t185 _ (cu jb) uj.1 A3.1).mono ?_);rintro e w4 ⟨atQ,rfl,gu,hb⟩;have Xd:=ak (Kd.bO gu (aq bl));replace HB:=qb hb;clear hb;(try clear gu);obtain⟨Ao5,co5,eo5⟩:=Kd.bm Xd.1;subst eo5)
 repeat (go_quiet (first|fail);try go_wp2_with fail)
 go_loopg [4,5,6,12] k (fun kq v4 v5 v6 v12 w'=>∃(jG:Int)(sO:Bool)(Ny:Int)(fW:Int),v4= .int .i64 jG∧v5= .bool sO∧v6= .int .i64 Ny∧v12= .int .i64 fW∧ae (dN.l0 kq a1 jG sO Ny t185 (t185.length:Int) fW=some (r1,r2))∧ae (kq≤k)∧ae (Kd.R zb 66 w' w.heap.size (fun _=>True) (.slice Ao5 t185.length co5) t185)∧ae (Below w.heap.size w w'))
 case atStart=>exact⟨0,false,0,0,rs,rs,rs,rs,H,⟨Nat.le_refl _⟩,⟨ru Xd⟩,⟨bl⟩⟩
 case round=>
  clear H;obtain⟨jG,sO,Ny,fW,rfl,rfl,rfl,rfl,H,iB,lS,HB⟩:=hrel;cases gk with
  |zero=>exact absurd H.1 (by simp [dN.l0])
  |succ k1=>
   simp only[dN.l0] at H;replace H:=ic H;rcases H with⟨lu,H⟩|⟨lu,H⟩
   ·replace H:=iO H;obtain⟨vO,H⟩:=H;replace H:=iO H;obtain⟨rb,H⟩:=H;replace H:=ic H;rcases H with⟨AB,H⟩|⟨AB,H⟩
    ·replace H:=ic H;rcases H with⟨yx,H⟩|⟨yx,H⟩
     ·replace H:=ib H;rcases H with⟨rfl,H⟩|⟨rfl,H⟩
      ·replace H:=ic H;rcases H with⟨CQ,H⟩|⟨CQ,H⟩
       ·obtain⟨LJ,En,zG,zH⟩:=oZ (Kd.aW lS.1).2.2 fW dt dt;cases En;have Uj:=tp (0≤(fW:Int));have Uk:=tp (fW<(t185.length:Int))
        go_wp2_with((with_reducible refine gd 8 ?_);refine bX 66 #[.int .i64 0,.int .i64 0] fun mh WW wg LL HB hg hb=>?_;replace lS:=qe lS hg hb;clear hb hg;obtain⟨pX,pY⟩:=cf wg)
        repeat (go_quiet (first|fail);try go_wp2_with fail)
        go_roundg k1
        case measure=>have:=iB.1;omega
        case rel=>exact⟨((bU t185 fW).f0),true,((bU t185 fW).f1),(wrap64 (fW+1)),rs,rs,rs,rs,H,⟨by have:=iB.1;omega⟩,⟨by(with_reducible repeat (first|apply Kd.bQ|apply Kd.dh|apply Kd.cR));exact Kd.bJ (Kd.fu (p:=⟨mh,1,none⟩) (Kd.fu (p:=⟨mh,0,none⟩) (Kd.bJ lS.1 (fun k_ hk=>(⟨hk,hk.2⟩:_∧k_≠mh))) (fun _ hk=>hk.2) (.int .i64 ((bU t185 fW).f0))) (fun _ hk=>hk.2) (.int .i64 ((bU t185 fW).f1))) (fun _ hk=>trivial)⟩,⟨bl⟩⟩
       ·obtain⟨LJ,En,zG,zH⟩:=oZ (Kd.aW lS.1).2.2 fW dt dt;cases En;have Uj:=tp (0≤(fW:Int));have Uk:=tp (fW<(t185.length:Int))
        go_wp2_with((with_reducible refine gd 8 ?_);refine bX 66 #[.int .i64 0,.int .i64 0] fun mh TS wg LL HB hg hb=>?_;replace lS:=qe lS hg hb;clear hb hg;obtain⟨ot,ou⟩:=cf wg)
        repeat (go_quiet (first|fail);try go_wp2_with fail)
        go_roundg k1
        case measure=>have:=iB.1;omega
        case rel=>exact⟨jG,true,Ny,(wrap64 (fW+1)),rs,rs,rs,rs,H,⟨by have:=iB.1;omega⟩,⟨by(with_reducible repeat (first|apply Kd.bQ|apply Kd.dh|apply Kd.cR));exact Kd.bJ (Kd.fu (p:=⟨mh,1,none⟩) (Kd.fu (p:=⟨mh,0,none⟩) (Kd.bJ lS.1 (fun k_ hk=>(⟨hk,hk.2⟩:_∧k_≠mh))) (fun _ hk=>hk.2) (.int .i64 ((bU t185 fW).f0))) (fun _ hk=>hk.2) (.int .i64 ((bU t185 fW).f1))) (fun _ hk=>trivial)⟩,⟨bl⟩⟩
      ·obtain⟨LJ,En,zG,zH⟩:=oZ (Kd.aW lS.1).2.2 fW dt dt;cases En;have Uj:=tp (0≤(fW:Int));have Uk:=tp (fW<(t185.length:Int))
       go_wp2_with((with_reducible refine gd 8 ?_);refine bX 66 #[.int .i64 0,.int .i64 0] fun mh WZ wg LL HB hg hb=>?_;replace lS:=qe lS hg hb;clear hb hg;obtain⟨pZ,p7⟩:=cf wg)
       repeat (go_quiet (first|fail);try go_wp2_with fail)
       go_roundg k1
       case measure=>have:=iB.1;omega
       case rel=>exact⟨((bU t185 fW).f0),true,((bU t185 fW).f1),(wrap64 (fW+1)),rs,rs,rs,rs,H,⟨by have:=iB.1;omega⟩,⟨by(with_reducible repeat (first|apply Kd.bQ|apply Kd.dh|apply Kd.cR));exact Kd.bJ (Kd.fu (p:=⟨mh,1,none⟩) (Kd.fu (p:=⟨mh,0,none⟩) (Kd.bJ lS.1 (fun k_ hk=>(⟨hk,hk.2⟩:_∧k_≠mh))) (fun _ hk=>hk.2) (.int .i64 ((bU t185 fW).f0))) (fun _ hk=>hk.2) (.int .i64 ((bU t185 fW).f1))) (fun _ hk=>trivial)⟩,⟨bl⟩⟩
     ·obtain⟨LJ,En,zG,zH⟩:=oZ (Kd.aW lS.1).2.2 fW dt dt;cases En;have Uj:=tp (0≤(fW:Int));have Uk:=tp (fW<(t185.length:Int))
      go_wp2_with((with_reducible refine gd 8 ?_);refine bX 66 #[.int .i64 0,.int .i64 0] fun mh Nz wg LL HB hg hb=>?_;replace lS:=qe lS hg hb;clear hb hg;obtain⟨p8,qa⟩:=cf wg)
      repeat (go_quiet (first|fail);try go_wp2_with fail)
      go_roundg k1
      case measure=>have:=iB.1;omega
      case rel=>exact⟨jG,sO,Ny,(wrap64 (fW+1)),rs,rs,rs,rs,H,⟨by have:=iB.1;omega⟩,⟨by(with_reducible repeat (first|apply Kd.bQ|apply Kd.dh|apply Kd.cR));exact Kd.bJ (Kd.fu (p:=⟨mh,1,none⟩) (Kd.fu (p:=⟨mh,0,none⟩) (Kd.bJ lS.1 (fun k_ hk=>(⟨hk,hk.2⟩:_∧k_≠mh))) (fun _ hk=>hk.2) (.int .i64 ((bU t185 fW).f0))) (fun _ hk=>hk.2) (.int .i64 ((bU t185 fW).f1))) (fun _ hk=>trivial)⟩,⟨bl⟩⟩
    ·obtain⟨LJ,En,zG,zH⟩:=oZ (Kd.aW lS.1).2.2 fW dt dt;cases En;have Uj:=tp (0≤(fW:Int));have Uk:=tp (fW<(t185.length:Int))
     go_wp2_with((with_reducible refine gd 8 ?_);refine bX 66 #[.int .i64 0,.int .i64 0] fun mh WX wg LL HB hg hb=>?_;replace lS:=qe lS hg hb;clear hb hg;obtain⟨tV,tW⟩:=cf wg)
     repeat (go_quiet (first|fail);try go_wp2_with fail)
     go_roundg k1
     case measure=>have:=iB.1;omega
     case rel=>exact⟨jG,sO,Ny,(wrap64 (fW+1)),rs,rs,rs,rs,H,⟨by have:=iB.1;omega⟩,⟨by(with_reducible repeat (first|apply Kd.bQ|apply Kd.dh|apply Kd.cR));exact Kd.bJ (Kd.fu (p:=⟨mh,1,none⟩) (Kd.fu (p:=⟨mh,0,none⟩) (Kd.bJ lS.1 (fun k_ hk=>(⟨hk,hk.2⟩:_∧k_≠mh))) (fun _ hk=>hk.2) (.int .i64 ((bU t185 fW).f0))) (fun _ hk=>hk.2) (.int .i64 ((bU t185 fW).f1))) (fun _ hk=>trivial)⟩,⟨bl⟩⟩
   ·obtain⟨rfl,rfl⟩:=s2 H;go_wp2
    repeat (go_quiet (first|fail);try go_wp2_with fail)
    go_ret2;exact⟨re,bl⟩
def bZ.j0:Nat→Bool→Int→Int→Int→Int→Option Bool
 |0,_,_,_,_,_=>none
 |k+1,x3,aiO,Er,Es,aiP=>if x3=true then some false else if Er<2 then some false else if Er>32 then some false else if(Int.tmod Er 2)=0 then if Es≥2 then if Es≤8 then some ((Int.tmod Es 2)==0) else some false else some false else some false
def bZ.f(k:Nat)(az ax aA aC:Int):Option Bool:=if az<1 then bZ.j0 k (decide (az<1)) az ax aA aC else if az>64 then bZ.j0 k (decide (az>64)) az ax aA aC else if aC<1 then bZ.j0 k (decide (aC<1)) az ax aA aC else bZ.j0 k (decide (aC>4096)) az ax aA aC
theorem bZ.pj:∀k,(∀y0 y1 y2 y3 y4,sL (bZ.j0 k y0 y1 y2 y3 y4) (bZ.j0 (k+1) y0 y1 y2 y3 y4))
 |0=>fun _ _ _ _ _ r h=>by simp [bZ.j0] at h
 |k+1=>by
  have SK:=bZ.pj k
  ·intro y0 y1 y2 y3 y4;unfold bZ.j0;exact lm
theorem bZ.mono:∀a0 a1 a2 a3 k,sL (bZ.f k a0 a1 a2 a3) (bZ.f (k+1) a0 a1 a2 a3):=by
 intro a0 a1 a2 a3 k;have SK:=bZ.pj k;unfold bZ.f;exact lm
theorem bZ.calls(k:Nat)(az ax aA aC:Int)(r:Bool)(w:World)(h:bZ.f k az ax aA aC=some r):
 Calls Tryz.prog 57 #[.agg #[.int .i64 az,.int .i64 ax,.int .i64 aA,.int .i64 aC]] w fun e w'=>e= .returned (.bool r)∧Below w.heap.size w w':=by
 have ND:=Tryz.underlying23;have HB:=ak (Below.refl w.heap.size w);have H:=ak h;clear h;unfold bZ.f at H;go_enter Tryz.func57,Tryz.ntmps57
 go_upto_if 3 with((with_reducible refine gd 1 ?_);refine bY 23 #[.int .i64 az,.int .i64 ax,.int .i64 aA,.int .i64 aC] fun aek w3 pn aqg HB=>?_;obtain⟨Ed,Ee⟩:=cf pn)
 (try simp only[Act.put,List.setIfInBounds_toArray,List.set_cons_zero,List.set_cons_succ])
 go_cut [3] (fun v3 wc=>∃(kq:Nat)(jg:Bool),v3= .bool jg∧ae (bZ.j0 kq jg az ax aA aC=some r)∧ae (kq≤k)∧ae (wc.heap[aek]? =some (.cells #[.int .i64 az,.int .i64 ax,.int .i64 aA,.int .i64 aC] 23 (0,0)))∧ae (Below w.heap.size w wc))
 case first=>
  replace H:=ic H;rcases H with⟨iG,H⟩|⟨iG,H⟩
  ·(first|rw[iG]|(simp only[bp,bF];rw[iG])|skip);go_wp2;go_meet
   case rel=>exact⟨_,(decide (az<1)),rs,H,⟨by first|omega|exact Nat.le_refl _⟩,⟨bu pn⟩,⟨bl⟩⟩
  ·(first|rw[iG]|(simp only[bp,bF];rw[iG])|skip);replace H:=ic H;rcases H with⟨lu,H⟩|⟨lu,H⟩
   ·obtain⟨nZ,n9⟩:=cf pn;go_wp2;go_meet
    case rel=>exact⟨_,(decide (az>64)),rs,H,⟨by first|omega|exact Nat.le_refl _⟩,⟨bu pn⟩,⟨bl⟩⟩
   ·replace H:=ic H;rcases H with⟨rb,H⟩|⟨rb,H⟩
    ·obtain⟨po,pq⟩:=cf pn;go_wp2;go_meet
     case rel=>exact⟨_,(decide (aC<1)),rs,H,⟨by first|omega|exact Nat.le_refl _⟩,⟨bu pn⟩,⟨bl⟩⟩
    ·obtain⟨tX,tY⟩:=cf pn;go_wp2;go_meet
     case rel=>exact⟨_,(decide (aC>4096)),rs,H,⟨by first|omega|exact Nat.le_refl _⟩,⟨bu pn⟩,⟨bl⟩⟩
 case rest=>
  clear H;obtain⟨kq,jg,rfl,H,JQ,pn,HB⟩:=hcut;cases kq with
  |zero=>exact absurd H.1 (by simp [bZ.j0])
  |succ Ec=>
   simp only[bZ.j0] at H;replace H:=ib H;rcases H with⟨rfl,H⟩|⟨rfl,H⟩
   ·obtain rfl:=s1 H;go_wp2;go_ret;exact⟨re,bl⟩
   ·replace H:=ic H;rcases H with⟨CQ,H⟩|⟨CQ,H⟩
    ·obtain rfl:=s1 H;obtain⟨pV,pW⟩:=cf pn;go_wp2;go_ret;exact⟨re,bl⟩
    ·replace H:=ic H;rcases H with⟨uz,H⟩|⟨uz,H⟩
     ·obtain rfl:=s1 H;obtain⟨ni,nj⟩:=cf pn;go_wp2;go_ret;exact⟨re,bl⟩
     ·replace H:=iC H;rcases H with⟨c16,H⟩|⟨c16,H⟩
      ·have Xe:((Int.tmod ax 2)==0)=true:=beq_iff_eq.mpr c16;have ael:((Int.tmod ax 2) !=0)=false:=bne_eq_false_iff_eq.mpr c16;clear c16;replace H:=ic H;rcases H with⟨AW,H⟩|⟨AW,H⟩
       ·replace H:=ic H;rcases H with⟨wk,H⟩|⟨wk,H⟩
        ·obtain rfl:=s1 H;obtain⟨DJ,DL⟩:=cf pn;go_wp2;go_ret;exact⟨re,bl⟩
        ·obtain rfl:=s1 H;obtain⟨p8,qa⟩:=cf pn;go_wp2;go_ret;exact⟨re,bl⟩
       ·obtain rfl:=s1 H;obtain⟨vS,vT⟩:=cf pn;go_wp2;go_ret;exact⟨re,bl⟩
      ·have Xe:((Int.tmod ax 2)==0)=false:=beq_eq_false_iff_ne.mpr c16;have ael:((Int.tmod ax 2) !=0)=true:=bne_iff_ne.mpr c16;obtain rfl:=s1 H;obtain⟨tV,tW⟩:=cf pn;go_wp2;go_ret;exact⟨re,bl⟩
def df.j0:Nat→Int→Bool→Int→Int→Int→Option Bool
 |0,_,_,_,_,_=>none
 |k+1,x1,x5,zI,Et,LR=>if x5=true then some false else if(wrap64 (2*LR))>(wrap64 (x1-Et)) then some false else if zI<0 then some false else if zI≥x1 then some false else if zI<Et then some true else some (decide ((wrap64 (zI-Et))≥(wrap64 (2*LR))))
def df.f(k:Nat)(az ax aA a1:Int):Option Bool:=if aA<1 then df.j0 k a1 (decide (aA<1)) az ax aA else if aA>4096 then df.j0 k a1 (decide (aA>4096)) az ax aA else if ax<0 then df.j0 k a1 (decide (ax<0)) az ax aA else df.j0 k a1 (decide (ax>a1)) az ax aA
theorem df.pj:∀k,(∀y0 y1 y2 y3 y4,sL (df.j0 k y0 y1 y2 y3 y4) (df.j0 (k+1) y0 y1 y2 y3 y4))
 |0=>fun _ _ _ _ _ r h=>by simp [df.j0] at h
 |k+1=>by
  have SK:=df.pj k
  ·intro y0 y1 y2 y3 y4;unfold df.j0;exact lm
theorem df.mono:∀a0 a1 a2 a3 k,sL (df.f k a0 a1 a2 a3) (df.f (k+1) a0 a1 a2 a3):=by
 intro a0 a1 a2 a3 k;have SK:=df.pj k;unfold df.f;exact lm
theorem df.calls(k:Nat)(az ax aA a1:Int)(r:Bool)(w:World)(h:df.f k az ax aA a1=some r):
 Calls Tryz.prog 59 #[.agg #[.int .i64 az,.int .i64 ax,.int .i64 aA],.int .i64 a1] w fun e w'=>e= .returned (.bool r)∧Below w.heap.size w w':=by
 have alB:=Tryz.underlying80;have HB:=ak (Below.refl w.heap.size w);have H:=ak h;clear h;unfold df.f at H;go_enter Tryz.func59,Tryz.ntmps59
 go_upto_if 5 with((with_reducible refine gd 2 ?_);refine bY 80 #[.int .i64 az,.int .i64 ax,.int .i64 aA] fun aem w4 qn aqh HB=>?_;obtain⟨Ea,Eb⟩:=cf qn)
 (try simp only[Act.put,List.setIfInBounds_toArray,List.set_cons_zero,List.set_cons_succ])
 go_cut [5] (fun v5 wc=>∃(kq:Nat)(ll:Bool),v5= .bool ll∧ae (df.j0 kq a1 ll az ax aA=some r)∧ae (kq≤k)∧ae (wc.heap[aem]? =some (.cells #[.int .i64 az,.int .i64 ax,.int .i64 aA] 80 (0,0)))∧ae (Below w.heap.size w wc))
 case first=>
  replace H:=ic H;rcases H with⟨lu,H⟩|⟨lu,H⟩
  ·(first|rw[lu]|(simp only[bp,bF];rw[lu])|skip);go_wp2;go_meet
   case rel=>exact⟨_,(decide (aA<1)),rs,H,⟨by first|omega|exact Nat.le_refl _⟩,⟨bu qn⟩,⟨bl⟩⟩
  ·(first|rw[lu]|(simp only[bp,bF];rw[lu])|skip);replace H:=ic H;rcases H with⟨vO,H⟩|⟨vO,H⟩
   ·obtain⟨uR,uS⟩:=cf qn;go_wp2;go_meet
    case rel=>exact⟨_,(decide (aA>4096)),rs,H,⟨by first|omega|exact Nat.le_refl _⟩,⟨bu qn⟩,⟨bl⟩⟩
   ·replace H:=ic H;rcases H with⟨AB,H⟩|⟨AB,H⟩
    ·obtain⟨tX,tY⟩:=cf qn;go_wp2;go_meet
     case rel=>exact⟨_,(decide (ax<0)),rs,H,⟨by first|omega|exact Nat.le_refl _⟩,⟨bu qn⟩,⟨bl⟩⟩
    ·obtain⟨km,ko⟩:=cf qn;go_wp2;go_meet
     case rel=>exact⟨_,(decide (ax>a1)),rs,H,⟨by first|omega|exact Nat.le_refl _⟩,⟨bu qn⟩,⟨bl⟩⟩
 case rest=>
  clear H;obtain⟨kq,ll,rfl,H,SW,qn,HB⟩:=hcut;cases kq with
  |zero=>exact absurd H.1 (by simp [df.j0])
  |succ Xf=>
   simp only[df.j0] at H;replace H:=ib H;rcases H with⟨rfl,H⟩|⟨rfl,H⟩
   ·obtain rfl:=s1 H;go_wp2;go_ret;exact⟨re,bl⟩
   ·replace H:=ic H;rcases H with⟨LS,H⟩|⟨LS,H⟩
    ·obtain rfl:=s1 H;obtain⟨pX,pY⟩:=cf qn;go_wp2;go_ret;exact⟨re,bl⟩
    ·replace H:=ic H;rcases H with⟨LU,H⟩|⟨LU,H⟩
     ·obtain rfl:=s1 H;obtain⟨ot,ou⟩:=cf qn;go_wp2;go_ret;exact⟨re,bl⟩
     ·replace H:=ic H;rcases H with⟨AW,H⟩|⟨AW,H⟩
      ·obtain rfl:=s1 H;obtain⟨pZ,p7⟩:=cf qn;go_wp2;go_ret;exact⟨re,bl⟩
      ·replace H:=ic H;rcases H with⟨tr,H⟩|⟨tr,H⟩
       ·obtain rfl:=s1 H;obtain⟨p8,qa⟩:=cf qn;go_wp2;go_ret;exact⟨re,bl⟩
       ·obtain rfl:=s1 H;obtain⟨vS,vT⟩:=cf qn;go_wp2;go_ret;exact⟨re,bl⟩
def jH.f(a0:Int):Option Int:=if a0=0 then some 1 else some (wrap64 ((wrap64 (Int.tdiv (wrap64 (a0-1)) 7))+1))
theorem jH.calls(a0 r:Int)(w:World)(h:jH.f a0=some r):
 Calls Tryz.prog 152 #[.int .i64 a0] w fun e w'=>e= .returned (.int .i64 r)∧bN w w':=by
 have H:=ak h;clear h;unfold jH.f at H;replace H:=iC H;rcases H with⟨c2,H⟩|⟨c2,H⟩
 ·have mC:(a0==0)=true:=beq_iff_eq.mpr c2;have Uq:(a0 !=0)=false:=bne_eq_false_iff_eq.mpr c2;clear c2;obtain rfl:=s1 H;go_enter Tryz.func152,Tryz.ntmps152;go_wp2;go_ret;exact⟨by first|rfl|(simp;done)|(simp [*];done),by repeat (first|exact bN.refl _|apply bN.step)⟩
 ·have mC:(a0==0)=false:=beq_eq_false_iff_ne.mpr c2;have Uq:(a0 !=0)=true:=bne_iff_ne.mpr c2;obtain rfl:=s1 H;go_enter Tryz.func152,Tryz.ntmps152;go_wp2;go_ret;exact⟨by first|rfl|(simp;done)|(simp [*];done),by repeat (first|exact bN.refl _|apply bN.step)⟩
def dY.l0:Nat→Int→Int→Option Int
 |0,_,_=>none
 |k+1,x0,x3=>if x0>1 then(jH.f x0).bind fun t103=>(dY.l0 k t103 (wrap64 (x3+t103))) else some x3
def dY.f(k:Nat)(a0:Int):Option Int:=if a0<0 then some 0 else(jH.f a0).bind fun t102=>(dY.l0 k t102 t102)
theorem dY.calls(k:Nat)(a0 r:Int)(w:World)(h:dY.f k a0=some r):
 Calls Tryz.prog 98 #[.int .i64 a0] w fun e w'=>e= .returned (.int .i64 r)∧bN w w':=by
 have H:=ak h;clear h;unfold dY.f at H;replace H:=ic H;rcases H with⟨mC,H⟩|⟨mC,H⟩
 ·obtain rfl:=s1 H;go_enter Tryz.func98,Tryz.ntmps98;go_wp2;go_ret;exact⟨by first|rfl|(simp;done)|(simp [*];done),by repeat (first|exact bN.refl _|apply bN.step)⟩
 ·replace H:=bI H;obtain⟨t102,A3,H⟩:=H;(try dsimp only at H);go_enter Tryz.func98,Tryz.ntmps98
  go_wp2_with((with_reducible refine gc 152 ?_);refine gl 7 Tryz.func152 #[.int .i64 a0] ?_;(with_reducible refine(jH.calls a0 t102 _ A3.1).mono ?_);rintro e w' ⟨rfl,⟨nd,rfl⟩⟩;refine⟨_,rfl,?_⟩)
  go_loopg [0,3] k (fun kq v0 v3 w'=>∃(eP:Int)(jg:Int),v0= .int .i64 eP∧v3= .int .i64 jg∧ae (dY.l0 kq eP jg=some r)∧ae (kq≤k)∧bN w w')
  case atStart=>exact⟨t102,t102,rs,rs,H,⟨Nat.le_refl _⟩,by repeat (first|exact bN.refl _|apply bN.step)⟩
  case round=>
   clear H;obtain⟨eP,jg,rfl,rfl,H,iB,⟨m1,rfl⟩⟩:=hrel;cases gk with
   |zero=>exact absurd H.1 (by simp [dY.l0])
   |succ k1=>
    simp only[dY.l0] at H;replace H:=ic H;rcases H with⟨jP,H⟩|⟨jP,H⟩
    ·replace H:=bI H;obtain⟨t103,A5,H⟩:=H;(try dsimp only at H)
     go_wp2_with((with_reducible refine gc 152 ?_);refine gl 12 Tryz.func152 #[.int .i64 eP] ?_;(with_reducible refine(jH.calls eP t103 _ A5.1).mono ?_);rintro e w' ⟨rfl,⟨nd,rfl⟩⟩;refine⟨_,rfl,?_⟩)
     go_roundg k1
     case measure=>have:=iB.1;omega
     case rel=>exact⟨t103,(wrap64 (jg+t103)),rs,rs,H,⟨by have:=iB.1;omega⟩,by repeat (first|exact bN.refl _|apply bN.step)⟩
    ·obtain rfl:=s1 H;go_wp2;go_ret;exact⟨by first|rfl|(simp;done)|(simp [*];done),by repeat (first|exact bN.refl _|apply bN.step)⟩
def kY.f(a0:Int):Option ((List dJ)×Int):=if a0<2 then(some (([]:List dJ),1)) else(if a0>8 then(some (([]:List dJ),1)) else(if(Int.tmod a0 2)=0 then(if 0≤a0 then(if(a0:Int).toNat≤8796093022208 then(some ((List.replicate (a0:Int).toNat z58),0)) else none) else none) else(some (([]:List dJ),1))))
theorem kY.calls(a0:Int)(r1:List dJ)(r2:Int)(w:World)(h:kY.f a0=some (r1,r2)):
 Calls Tryz.prog 38 #[.int .i64 a0] w fun e w'=>∃kT:Value,e= .returned (.tuple #[kT,.int .i64 r2])∧Kd.R gQ 58 w' w.heap.size (fun _=>True) kT r1∧Below w.heap.size w w':=by
 have HB:=ak (Below.refl w.heap.size w);have H:=ak h;clear h;unfold kY.f at H;replace H:=ic H;rcases H with⟨mC,H⟩|⟨mC,H⟩
 ·obtain⟨rfl,rfl⟩:=s2 H;go_enter Tryz.func38,Tryz.ntmps38;go_wp2;go_ret2;exact⟨_,re,kn,bl⟩
 ·replace H:=ic H;rcases H with⟨kU,H⟩|⟨kU,H⟩
  ·obtain⟨rfl,rfl⟩:=s2 H;go_enter Tryz.func38,Tryz.ntmps38;go_wp2;go_ret2;exact⟨_,re,kn,bl⟩
  ·replace H:=iC H;rcases H with⟨c4,H⟩|⟨c4,H⟩
   ·have jP:((Int.tmod a0 2)==0)=true:=beq_iff_eq.mpr c4;have Nd:((Int.tmod a0 2) !=0)=false:=bne_eq_false_iff_eq.mpr c4;clear c4;replace H:=iP H;obtain⟨c5,H⟩:=H;have iG:=eq_true c5;have JR:=decide_eq_true c5;clear c5;replace H:=iP H;obtain⟨c6,H⟩:=H;have lu:=eq_true c6;have Gt:=decide_eq_true c6;clear c6;obtain⟨at3,Qv⟩:=nm (List.replicate (a0:Int).toNat z58);rw[←Qv.1] at H;obtain⟨rfl,rfl⟩:=s2 H;go_enter Tryz.func38,Tryz.ntmps38
    go_wp2_with((with_reducible refine gd 16 ?_);refine Kd.Ak gQ _ 58 rfl (N:=16) rfl 25 _ _ rfl a0 rfl rfl Tryz.underlying25 (.agg #[(.string ⟨#[]⟩),(.int .i64 0),(.int .i64 0)]) 32 xB rfl (by decide) (by omega) z58 (ok:=fun _=>True) (kc:=fun _=>True) (Lq _ _ _ z58) (fun _ hk=>hk) trivial dt (Nat.le_trans (Nat.mul_le_mul_right _ (dt:a0.toNat≤8796093022208)) (by omega)) (Below.refl _ _) (Nat.le_refl _) ?_;intro v145 w7 CJ hb qh gY;clear qh gY;(first|rw[←Qv.1] at CJ|(simp only[Int.reduceToNat] at CJ;rw[←Qv.1] at CJ));have aew:=ak (Kd.bO CJ (aq bl));replace HB:=qb hb;clear hb CJ)
    go_ret2;exact⟨_,re,by(with_reducible repeat (first|apply Kd.bQ|apply Kd.dh|apply Kd.cR));exact aew.1,bl⟩
   ·have jP:((Int.tmod a0 2)==0)=false:=beq_eq_false_iff_ne.mpr c4;have Nd:((Int.tmod a0 2) !=0)=true:=bne_iff_ne.mpr c4;obtain⟨rfl,rfl⟩:=s2 H;go_enter Tryz.func38,Tryz.ntmps38;go_wp2;go_ret2;exact⟨_,re,kn,bl⟩
def fo.f(az ax:Int):Option Bool:=if az≥0 then if az<32 then if ax≥0 then some (decide (ax<65536)) else some false else some false else some false
theorem fo.calls(az ax:Int)(r:Bool)(w:World)(h:fo.f az ax=some r):
 Calls Tryz.prog 80 #[.agg #[.int .i64 az,.int .i64 ax]] w fun e w'=>e= .returned (.bool r)∧Below w.heap.size w w':=by
 have JT:=Tryz.underlying32;have HB:=ak (Below.refl w.heap.size w);have H:=ak h;clear h;unfold fo.f at H;replace H:=ic H;rcases H with⟨mC,H⟩|⟨mC,H⟩
 ·replace H:=ic H;rcases H with⟨kU,H⟩|⟨kU,H⟩
  ·replace H:=ic H;rcases H with⟨jP,H⟩|⟨jP,H⟩
   ·obtain rfl:=s1 H;go_enter Tryz.func80,Tryz.ntmps80
    go_wp2_with((with_reducible refine gd 1 ?_);refine bY 32 #[.int .i64 az,.int .i64 ax] fun Qw w5 AY Qx HB=>?_;obtain⟨JO,JP⟩:=cf AY)
    go_ret;exact⟨re,bl⟩
   ·obtain rfl:=s1 H;go_enter Tryz.func80,Tryz.ntmps80
    go_wp2_with((with_reducible refine gd 1 ?_);refine bY 32 #[.int .i64 az,.int .i64 ax] fun Qw w7 AY Qx HB=>?_;obtain⟨uR,uS⟩:=cf AY)
    go_ret;exact⟨re,bl⟩
  ·obtain rfl:=s1 H;go_enter Tryz.func80,Tryz.ntmps80
   go_wp2_with((with_reducible refine gd 1 ?_);refine bY 32 #[.int .i64 az,.int .i64 ax] fun Qw w9 AY Qx HB=>?_;obtain⟨tX,tY⟩:=cf AY)
   go_ret;exact⟨re,bl⟩
 ·obtain rfl:=s1 H;go_enter Tryz.func80,Tryz.ntmps80
  go_wp2_with((with_reducible refine gd 1 ?_);refine bY 32 #[.int .i64 az,.int .i64 ax] fun Qw w11 AY Qx HB=>?_;obtain⟨zC,zD⟩:=cf AY)
  go_ret;exact⟨re,bl⟩
end Go.Proofs.YtmhdcgmfbjcndaaGreatDoor.P
