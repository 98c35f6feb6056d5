import Derived.Test.YtmhdcgmfbjcndaaGreatDoorB11
import Derived.Test.YtmhdcgmfbjcndaaGreatDoorB17
set_option linter.unusedVariables false
set_option linter.unusedSimpArgs false
set_option maxRecDepth 100000
set_option maxHeartbeats 8000000
namespace Go.Proofs.YtmhdcgmfbjcndaaGreatDoor.P
open Go.RowKit Go.Proofs.aa.ag Go.Proofs.aa.ao Go.Proofs.aa.ay
attribute [local go_sem] bD bw cj bV bj bk bG bH
attribute [local go_sem high] Xk
def bb.l0:Nat→List dJ→List dJ→Int→Int→Option Bool
 |0,_,_,_,_=>none
 |k+1,x0,x7,x8,x9=>if x9<x8 then(if 0≤x9 then(if x9<(x7.length:Int) then(if((((bK x7 x9).f0).toList).isEmpty&&((((bK x7 x9).f1.f0)==0&&(((bK x7 x9).f1.f1)==0))))=true then bb.l0 k x0 x7 x8 (wrap64 (x9+1)) else((du.f ((bK x7 x9).f0)).bind fun t154=>(if t154=true then((fo.f ((bK x7 x9).f1.f0) ((bK x7 x9).f1.f1)).bind fun t155=>(if t155=true then(if x9≤(x0.length:Int) then((kI.f (x0.take (x9:Int).toNat) ((bK x7 x9).f0)).bind fun t160=>(if t160≥0 then some false else bb.l0 k x0 x7 x8 (wrap64 (x9+1)))) else none) else some false)) else some false))) else none) else none) else((kY.f (x0.length:Int)).bind fun aez=>(some (aez.2==0)))
def bb.f(k:Nat)(l0:List dJ):Option Bool:=bb.l0 k l0 l0 (l0.length:Int) 0
theorem bb.pj:∀k,(∀y0 y1 y2 y3,sL (bb.l0 k y0 y1 y2 y3) (bb.l0 (k+1) y0 y1 y2 y3))
 |0=>fun _ _ _ _ r h=>by simp [bb.l0] at h
 |k+1=>by
  have SK:=bb.pj k
  ·intro y0 y1 y2 y3;unfold bb.l0;exact lm
theorem bb.mono:∀a0 k,sL (bb.f k a0) (bb.f (k+1) a0):=by
 intro a0 k;have SK:=bb.pj k;unfold bb.f;exact lm
def bb.T7:Bool×List (List Nat×List Nat):=(true,[([],[]),([],[]),([0,1],[0,1]),([],[]),([3],[3]),([2,4],[2,4]),([5],[5]),([6,5],[6])])
def bb.B7:List Nat:=[0,0,3,0,8,31,63,127]
theorem bb.aeA:mb .any (opsOf Tryz.f41 7)=bb.T7:=by kernel_rfl
theorem bb.Xm:kR bb.T7.2 bb.B7=true:=by kernel_rfl
theorem bb.calls(k:Nat)(A0:Option Addr)(c0:Nat)(l0:List dJ)(r:Bool)(w:World)(fS:Kd.C gQ w A0 l0.length l0)(jr:l0.length≤c0)(h:bb.f k l0=some r):
 Calls Tryz.prog 41 #[.slice A0 l0.length c0] w fun e w'=>e= .returned (.bool r)∧Below w.heap.size w w':=by
 have aeB:=Tryz.underlying58;have JT:=Tryz.underlying32;have jb:=ak fS;have uj:=ak jr;clear fS jr;have HB:=ak (Below.refl w.heap.size w);have H:=ak h;clear h;unfold bb.f at H;go_enter Tryz.func41,Tryz.ntmps41;go_wp2
 go_loopg [9] k (fun kq v9 w'=>∃(cH:Int),v9= .int .i64 cH∧ae (bb.l0 kq l0 l0 (l0.length:Int) cH=some r)∧ae (kq≤k)∧ae (Below w.heap.size w w'))
 case atStart=>exact⟨0,rs,H,⟨Nat.le_refl _⟩,⟨bl⟩⟩
 case round=>
  clear H;obtain⟨cH,rfl,H,iB,HB⟩:=hrel;cases gk with
  |zero=>exact absurd H.1 (by simp [bb.l0])
  |succ k1=>
   simp only[bb.l0] at H;replace H:=ic H;rcases H with⟨mC,H⟩|⟨mC,H⟩
   ·replace H:=iO H;obtain⟨kU,H⟩:=H;replace H:=iO H;obtain⟨jP,H⟩:=H;replace H:=iC H;rcases H with⟨c5,H⟩|⟨c5,H⟩
    ·have iG:((((bK l0 cH).f0).toList).isEmpty&&((((bK l0 cH).f1.f0)==0&&(((bK l0 cH).f1.f1)==0))))=true:=c5;clear c5;obtain⟨uC,Ev,zJ,zK,zL⟩:=nW (cw jb) cH dt dt;cases Ev;have Uv:=tp (0≤(cH:Int));have Uw:=tp (cH<(l0.length:Int))
     go_wp2_with((with_reducible refine gd 4 ?_);refine bY 58 #[.string (⟨#[]⟩:ByteArray),.int .i64 0,.int .i64 0] fun uD w6 eO L6 HB=>?_;obtain⟨nZ,n9⟩:=cf eO)
     go_roundg k1
     case measure=>have:=iB.1;omega
     case rel=>exact⟨(wrap64 (cH+1)),rs,H,⟨by have:=iB.1;omega⟩,⟨bl⟩⟩
    ·have iG:((((bK l0 cH).f0).toList).isEmpty&&((((bK l0 cH).f1.f0)==0&&(((bK l0 cH).f1.f1)==0))))=false:=by simpa using c5
     clear c5;replace H:=bI H;obtain⟨t154,A8,H⟩:=H;(try dsimp only at H);replace H:=ib H;rcases H with⟨rfl,H⟩|⟨rfl,H⟩
     ·replace H:=bI H;obtain⟨t155,L9,H⟩:=H;(try dsimp only at H);replace H:=ib H;rcases H with⟨rfl,H⟩|⟨rfl,H⟩
      ·have CQ:=eq_true (dt:0≤cH);replace H:=iP H;obtain⟨NH,H⟩:=H;have LS:=eq_true NH;have aeC:=decide_eq_true NH;clear NH;obtain⟨GY,GZ⟩:=nm (l0.take (cH:Int).toNat);rw[←GZ.1] at H;replace H:=bI H;obtain⟨t160,WY,H⟩:=H;(try dsimp only at H);replace H:=ic H;rcases H with⟨LU,H⟩|⟨LU,H⟩
       ·obtain rfl:=s1 H;obtain⟨uC,Ev,zJ,zK,zL⟩:=nW (cw jb) cH dt dt;cases Ev;have Uv:=tp (0≤(cH:Int));have Uw:=tp (cH<(l0.length:Int))
        try go_wp2_with(first|((with_reducible refine gd 4 ?_);refine bY 58 #[.string (⟨#[]⟩:ByteArray),.int .i64 0,.int .i64 0] fun uD M9 eO L6 HB=>?_;obtain⟨vP,vQ⟩:=cf eO)|((with_reducible refine gc 79 ?_);refine gl 21 Tryz.func79 #[.string ((bK l0 cH).f0)] ?_;(with_reducible refine(du.calls ((bK l0 cH).f0) true _ A8.1).mono ?_);rintro e w18 ⟨rfl,hb⟩;refine⟨_,rfl,?_⟩;replace eO:=pb eO hb;replace HB:=qb hb;clear hb;obtain⟨DJ,DL⟩:=cf eO)|((with_reducible refine gc 80 ?_);refine gl 25 Tryz.func80 #[.agg #[.int .i64 ((bK l0 cH).f1.f0),.int .i64 ((bK l0 cH).f1.f1)]] ?_;(with_reducible refine(fo.calls ((bK l0 cH).f1.f0) ((bK l0 cH).f1.f1) true _ L9.1).mono ?_);rintro e w20 ⟨rfl,hb⟩;refine⟨_,rfl,?_⟩;replace eO:=qk eO hb;replace HB:=qb hb;clear hb))
        have iR:=ak (aY eO.1);have iT:=ak (eZ HB.1);clear eO;clear HB;have eO:=iR;have HB:=iT;clear iR iT;have q22:(cH:Int)≤((l0.length:Int):Int):=dt;obtain⟨at6,Xn,_,aeD,_⟩:=info_parts xB;have L':l0.length≤c0:=uj.1;have aeE:Kd.C gQ _ (some uC) l0.length l0:=jb.1;have ZZ:=xr (P:=Tryz.prog) 25 58 .i64 Tryz.underlying25 Xn (some uC) l0.length c0 cH dt q22 L';have Z4:=Kd.xu (m:=(cH:Int).toNat) aeE (by omega);have Z5:GY.length=(cH:Int).toNat:=(by rw[GZ.1,List.length_take];omega);rw[←GZ.1] at Z4;rw[←Z5] at ZZ;have G4:=ak Z4;have Qy:=ak (show GY.length≤c0 from by omega);clear Z4 aeE L' Xn aeD;have at7:=ak Z5;clear Z5;replace q22:=eq_true q22;refine eW (n:=8) (S:=fun w'=>w'.cell? ⟨uD,0,none⟩=some (.string ((bK l0 cH).f0))∧w'.cell? ⟨uD,1,none⟩=some (.int .i64 ((bK l0 cH).f1.f0))∧w'.cell? ⟨uD,2,none⟩=some (.int .i64 ((bK l0 cH).f1.f1))) (ds:=[]) #[false,false,false,false,false,false,false,false] (by kernel_rfl) rfl rfl ⟨cL eO 0,cL eO 1,cL eO 2⟩ (fun hHeld=>?_);refine je bb.aeA bb.Xm (fun eU u9=>?_);generalize w20.drew=WX at eO HB G4 hHeld⊢;refine dd (i:=0) (N:=some 27) (v:= ?_) (a':= ?_) #[true,false,false,false,false,false,false,false] rfl rfl (cv eU.1 (by kernel_rfl)) (fun _ _ _ h=>h) (Or.inl ⟨by rfl,?_⟩) ?_ ?_;rotate_left
        ·intro w'
         go_simp
         with_reducible rfl
        rotate_left
        ·simp only[Act.put,List.setIfInBounds_toArray,List.set_cons_zero,List.set_cons_succ,bp,bF];rfl
        refine dd (i:=1) (N:=some 28) (v:= ?_) (a':= ?_) #[true,true,false,false,false,false,false,false] rfl rfl (cv eU.1 (by kernel_rfl)) (fun _ _ _ h=>h) (Or.inl ⟨by rfl,?_⟩) ?_ ?_;rotate_left
        ·intro w'
         go_simp
         with_reducible rfl
        rotate_left
        ·simp only[Act.put,List.setIfInBounds_toArray,List.set_cons_zero,List.set_cons_succ,bp,bF];rfl
        refine dd (i:=2) (N:=some 29) (v:= ?_) (a':= ?_) #[true,true,true,false,false,false,false,false] rfl rfl (cv eU.1 (by kernel_rfl)) (fun _ _ _ h=>h) (Or.inl ⟨by rfl,?_⟩) ?_ ?_;rotate_left
        ·intro w'
         go_simp
         with_reducible rfl
        rotate_left
        ·simp only[Act.put,List.setIfInBounds_toArray,List.set_cons_zero,List.set_cons_succ,bp,bF];rfl
        refine dd (i:=3) (N:=some 30) (v:= ?_) (a':= ?_) #[true,true,true,true,false,false,false,false] rfl rfl (cv eU.1 (by kernel_rfl)) (fun _ _ _ h=>h) (Or.inl ⟨by rfl,?_⟩) ?_ ?_;rotate_left
        ·intro w'
         go_simp
         with_reducible rfl
        rotate_left
        ·simp only[Act.put,List.setIfInBounds_toArray,List.set_cons_zero,List.set_cons_succ,bp,bF];rfl
        refine ke (i:=4) (N:=some 31) (v:= ?_) (a':= ?_) #[true,true,true,true,true,false,false,false] rfl rfl (fx eU.1 u9.1 (by kernel_rfl)) (fun _ _ _ h=>h) (Or.inl ⟨by rfl,?_⟩) hHeld ?_ ?_;rotate_left
        ·rintro w' ⟨s0,s1,s2⟩
         go_simp
         with_reducible rfl
        rotate_left
        ·simp only[Act.put,List.setIfInBounds_toArray,List.set_cons_zero,List.set_cons_succ,bp,bF];rfl
        refine qB (i:=5) (N:=some 32) #[true,true,true,true,true,true,false,false] rfl rfl (fR eU.1 (by kernel_rfl)) (by decide) (fun K hK=>?_);refine pN Tryz.func81 #[.slice (some uC) GY.length c0,.string ((bK l0 cH).f0)] ?_
        with_reducible refine(kI.calls _ _ GY ((bK l0 cH).f0) t160 _ ?di ?gJ WY.1).mono ?_
        (case di=>repeat (first|exact(Kd.aj G4.1 HB.1)|(with_reducible refine Kd.cD ?_ _)|(with_reducible refine Kd.cE ?_ _)|(with_reducible refine Kd.cY ?_)));(case gJ=>exact Qy.1);rintro e w23 ⟨rfl,hb⟩;refine⟨_,rfl,?_⟩;have iR:=qk eO hb;have iT:=qb hb;clear eO;clear HB;have eO:=iR;have HB:=iT;clear iR iT;(try clear hb);(try clear iq);(try clear hk);(try clear hi);refine ft hK (fun hHeld=>?_);clear hK K;refine dd (i:=6) (N:=some 33) (v:= ?_) (a':= ?_) #[true,true,true,true,true,true,true,false] rfl rfl (cv eU.1 (by kernel_rfl)) (fun _ _ _ h=>h) (Or.inl ⟨by rfl,?_⟩) ?_ ?_;rotate_left
        ·intro w'
         go_simp
         with_reducible rfl
        rotate_left
        ·simp only[Act.put,List.setIfInBounds_toArray,List.set_cons_zero,List.set_cons_succ,bp,bF];rfl
        refine dd (i:=7) (N:=some 18) (v:= ?_) (a':= ?_) #[true,true,true,true,true,true,true,true] rfl rfl (cv eU.1 (by kernel_rfl)) (fun _ _ _ h=>h) (Or.inl ⟨by rfl,?_⟩) ?_ ?_;rotate_left
        ·intro w'
         go_simp
         with_reducible rfl
        rotate_left
        ·simp only[Act.put,List.setIfInBounds_toArray,List.set_cons_zero,List.set_cons_succ,bp,bF];rfl
        refine gF (mc eU.1 (by kernel_rfl)) ?_
        try go_wp2
        go_ret;exact⟨re,bl⟩
       ·obtain⟨uC,Ev,zJ,zK,zL⟩:=nW (cw jb) cH dt dt;cases Ev;have Uv:=tp (0≤(cH:Int));have Uw:=tp (cH<(l0.length:Int))
        try go_wp2_with(first|((with_reducible refine gd 4 ?_);refine bY 58 #[.string (⟨#[]⟩:ByteArray),.int .i64 0,.int .i64 0] fun uD ZX eO L6 HB=>?_;obtain⟨vU,vV⟩:=cf eO)|((with_reducible refine gc 79 ?_);refine gl 21 Tryz.func79 #[.string ((bK l0 cH).f0)] ?_;(with_reducible refine(du.calls ((bK l0 cH).f0) true _ A8.1).mono ?_);rintro e w26 ⟨rfl,hb⟩;refine⟨_,rfl,?_⟩;replace eO:=pb eO hb;replace HB:=qb hb;clear hb;obtain⟨Ma,Mb⟩:=cf eO)|((with_reducible refine gc 80 ?_);refine gl 25 Tryz.func80 #[.agg #[.int .i64 ((bK l0 cH).f1.f0),.int .i64 ((bK l0 cH).f1.f1)]] ?_;(with_reducible refine(fo.calls ((bK l0 cH).f1.f0) ((bK l0 cH).f1.f1) true _ L9.1).mono ?_);rintro e w28 ⟨rfl,hb⟩;refine⟨_,rfl,?_⟩;replace eO:=qk eO hb;replace HB:=qb hb;clear hb))
        have iR:=ak (aY eO.1);have iT:=ak (eZ HB.1);clear eO;clear HB;have eO:=iR;have HB:=iT;clear iR iT;have q30:(cH:Int)≤((l0.length:Int):Int):=dt;obtain⟨aua,Xo,_,aeF,_⟩:=info_parts xB;have Mc:l0.length≤c0:=uj.1;have aeG:Kd.C gQ _ (some uC) l0.length l0:=jb.1;have Z9:=xr (P:=Tryz.prog) 25 58 .i64 Tryz.underlying25 Xo (some uC) l0.length c0 cH dt q30 Mc;have Z':=Kd.xu (m:=(cH:Int).toNat) aeG (by omega);have aaa:GY.length=(cH:Int).toNat:=(by rw[GZ.1,List.length_take];omega);rw[←GZ.1] at Z';rw[←aaa] at Z9;have G4:=ak Z';have Qy:=ak (show GY.length≤c0 from by omega);clear Z' aeG Mc Xo aeF;have aub:=ak aaa;clear aaa;replace q30:=eq_true q30;refine eW (n:=8) (S:=fun w'=>w'.cell? ⟨uD,0,none⟩=some (.string ((bK l0 cH).f0))∧w'.cell? ⟨uD,1,none⟩=some (.int .i64 ((bK l0 cH).f1.f0))∧w'.cell? ⟨uD,2,none⟩=some (.int .i64 ((bK l0 cH).f1.f1))) (ds:=[]) #[false,false,false,false,false,false,false,false] (by kernel_rfl) rfl rfl ⟨cL eO 0,cL eO 1,cL eO 2⟩ (fun hHeld=>?_);refine je bb.aeA bb.Xm (fun eU u9=>?_);generalize w28.drew=w29 at eO HB G4 hHeld⊢;refine dd (i:=0) (N:=some 27) (v:= ?_) (a':= ?_) #[true,false,false,false,false,false,false,false] rfl rfl (cv eU.1 (by kernel_rfl)) (fun _ _ _ h=>h) (Or.inl ⟨by rfl,?_⟩) ?_ ?_;rotate_left
        ·intro w'
         go_simp
         with_reducible rfl
        rotate_left
        ·simp only[Act.put,List.setIfInBounds_toArray,List.set_cons_zero,List.set_cons_succ,bp,bF];rfl
        refine dd (i:=1) (N:=some 28) (v:= ?_) (a':= ?_) #[true,true,false,false,false,false,false,false] rfl rfl (cv eU.1 (by kernel_rfl)) (fun _ _ _ h=>h) (Or.inl ⟨by rfl,?_⟩) ?_ ?_;rotate_left
        ·intro w'
         go_simp
         with_reducible rfl
        rotate_left
        ·simp only[Act.put,List.setIfInBounds_toArray,List.set_cons_zero,List.set_cons_succ,bp,bF];rfl
        refine dd (i:=2) (N:=some 29) (v:= ?_) (a':= ?_) #[true,true,true,false,false,false,false,false] rfl rfl (cv eU.1 (by kernel_rfl)) (fun _ _ _ h=>h) (Or.inl ⟨by rfl,?_⟩) ?_ ?_;rotate_left
        ·intro w'
         go_simp
         with_reducible rfl
        rotate_left
        ·simp only[Act.put,List.setIfInBounds_toArray,List.set_cons_zero,List.set_cons_succ,bp,bF];rfl
        refine dd (i:=3) (N:=some 30) (v:= ?_) (a':= ?_) #[true,true,true,true,false,false,false,false] rfl rfl (cv eU.1 (by kernel_rfl)) (fun _ _ _ h=>h) (Or.inl ⟨by rfl,?_⟩) ?_ ?_;rotate_left
        ·intro w'
         go_simp
         with_reducible rfl
        rotate_left
        ·simp only[Act.put,List.setIfInBounds_toArray,List.set_cons_zero,List.set_cons_succ,bp,bF];rfl
        refine ke (i:=4) (N:=some 31) (v:= ?_) (a':= ?_) #[true,true,true,true,true,false,false,false] rfl rfl (fx eU.1 u9.1 (by kernel_rfl)) (fun _ _ _ h=>h) (Or.inl ⟨by rfl,?_⟩) hHeld ?_ ?_;rotate_left
        ·rintro w' ⟨s0,s1,s2⟩
         go_simp
         with_reducible rfl
        rotate_left
        ·simp only[Act.put,List.setIfInBounds_toArray,List.set_cons_zero,List.set_cons_succ,bp,bF];rfl
        refine qB (i:=5) (N:=some 32) #[true,true,true,true,true,true,false,false] rfl rfl (fR eU.1 (by kernel_rfl)) (by decide) (fun K hK=>?_);refine pN Tryz.func81 #[.slice (some uC) GY.length c0,.string ((bK l0 cH).f0)] ?_
        with_reducible refine(kI.calls _ _ GY ((bK l0 cH).f0) t160 _ ?di ?gJ WY.1).mono ?_
        (case di=>repeat (first|exact(Kd.aj G4.1 HB.1)|(with_reducible refine Kd.cD ?_ _)|(with_reducible refine Kd.cE ?_ _)|(with_reducible refine Kd.cY ?_)));(case gJ=>exact Qy.1);rintro e LX ⟨rfl,hb⟩;refine⟨_,rfl,?_⟩;have iR:=qk eO hb;have iT:=qb hb;clear eO;clear HB;have eO:=iR;have HB:=iT;clear iR iT;(try clear hb);(try clear iq);(try clear hk);(try clear hi);refine ft hK (fun hHeld=>?_);clear hK K;refine dd (i:=6) (N:=some 33) (v:= ?_) (a':= ?_) #[true,true,true,true,true,true,true,false] rfl rfl (cv eU.1 (by kernel_rfl)) (fun _ _ _ h=>h) (Or.inl ⟨by rfl,?_⟩) ?_ ?_;rotate_left
        ·intro w'
         go_simp
         with_reducible rfl
        rotate_left
        ·simp only[Act.put,List.setIfInBounds_toArray,List.set_cons_zero,List.set_cons_succ,bp,bF];rfl
        refine dd (i:=7) (N:=some 18) (v:= ?_) (a':= ?_) #[true,true,true,true,true,true,true,true] rfl rfl (cv eU.1 (by kernel_rfl)) (fun _ _ _ h=>h) (Or.inl ⟨by rfl,?_⟩) ?_ ?_;rotate_left
        ·intro w'
         go_simp
         with_reducible rfl
        rotate_left
        ·simp only[Act.put,List.setIfInBounds_toArray,List.set_cons_zero,List.set_cons_succ,bp,bF];rfl
        refine gF (mc eU.1 (by kernel_rfl)) ?_
        try go_wp2
        go_roundg k1
        case measure=>have:=iB.1;omega
        case rel=>exact⟨(wrap64 (cH+1)),rs,H,⟨by have:=iB.1;omega⟩,⟨bl⟩⟩
      ·obtain rfl:=s1 H;obtain⟨uC,Ev,zJ,zK,zL⟩:=nW (cw jb) cH dt dt;cases Ev;have Uv:=tp (0≤(cH:Int));have Uw:=tp (cH<(l0.length:Int))
       go_wp2_with(first|((with_reducible refine gd 4 ?_);refine bY 58 #[.string (⟨#[]⟩:ByteArray),.int .i64 0,.int .i64 0] fun uD w32 eO L6 HB=>?_;obtain⟨Ur,Us⟩:=cf eO)|((with_reducible refine gc 79 ?_);refine gl 21 Tryz.func79 #[.string ((bK l0 cH).f0)] ?_;(with_reducible refine(du.calls ((bK l0 cH).f0) true _ A8.1).mono ?_);rintro e w34 ⟨rfl,hb⟩;refine⟨_,rfl,?_⟩;replace eO:=pb eO hb;replace HB:=qb hb;clear hb;obtain⟨ai7,ai8⟩:=cf eO)|((with_reducible refine gc 80 ?_);refine gl 25 Tryz.func80 #[.agg #[.int .i64 ((bK l0 cH).f1.f0),.int .i64 ((bK l0 cH).f1.f1)]] ?_;(with_reducible refine(fo.calls ((bK l0 cH).f1.f0) ((bK l0 cH).f1.f1) false _ L9.1).mono ?_);rintro e w36 ⟨rfl,hb⟩;refine⟨_,rfl,?_⟩;replace eO:=qk eO hb;replace HB:=qb hb;clear hb))
       go_ret;exact⟨re,bl⟩
     ·obtain rfl:=s1 H;obtain⟨uC,Ev,zJ,zK,zL⟩:=nW (cw jb) cH dt dt;cases Ev;have Uv:=tp (0≤(cH:Int));have Uw:=tp (cH<(l0.length:Int))
      go_wp2_with(first|((with_reducible refine gd 4 ?_);refine bY 58 #[.string (⟨#[]⟩:ByteArray),.int .i64 0,.int .i64 0] fun uD w37 eO L6 HB=>?_;obtain⟨ai9,ai'⟩:=cf eO)|((with_reducible refine gc 79 ?_);refine gl 21 Tryz.func79 #[.string ((bK l0 cH).f0)] ?_;(with_reducible refine(du.calls ((bK l0 cH).f0) false _ A8.1).mono ?_);rintro e w39 ⟨rfl,hb⟩;refine⟨_,rfl,?_⟩;replace eO:=pb eO hb;replace HB:=qb hb;clear hb))
      go_ret;exact⟨re,bl⟩
   ·replace H:=bI H;obtain⟨⟨t148,t149⟩,A40,H⟩:=H;(try dsimp only at H);obtain rfl:=s1 H
    go_wp2_with((with_reducible refine gc 38 ?_);refine gl 38 Tryz.func38 #[.int .i64 (l0.length:Int)] ?_;(with_reducible refine(kY.calls (l0.length:Int) t148 t149 _ A40.1).mono ?_);rintro e w41 ⟨auf,rfl,gu,hb⟩;refine⟨_,rfl,?_⟩;have aqu:=ak (Kd.bO gu (aq bl));replace HB:=qb hb;clear hb;(try clear gu))
    go_ret;exact⟨re,bl⟩
end Go.Proofs.YtmhdcgmfbjcndaaGreatDoor.P
namespace Go.Proofs.YtmhdcgmfbjcndaaGreatDoor.P
open Go.RowKit Go.Proofs.aa.ag Go.Proofs.aa.ao Go.Proofs.aa.ay
attribute [local go_sem] bD bw cj bV bj bk bG bH
mutual
def dq.j0:Nat→Bool→Int→Int→Int→Int→Int→Int→List cU→List dJ→List (List Int)→Option Bool
 |0,_,_,_,_,_,_,_,_,_,_=>none
 |k+1,x4,Ew,Ex,Ey,Ez,EA,ED,sl,zM,wo=>if x4=true then some false else((bW.f k sl).bind fun t162=>(if t162=true then((bb.f k zM).bind fun t163=>(if t163=true then(dq.l0 k (sl.length:Int) 0 Ew Ex Ey Ez EA ED sl zM wo) else some false)) else some false))
def dq.l0:Nat→Int→Int→Int→Int→Int→Int→Int→Int→List cU→List dJ→List (List Int)→Option Bool
 |0,_,_,_,_,_,_,_,_,_,_,_=>none
 |k+1,x37,sZ,Ew,Ex,Ey,Ez,EA,ED,sl,zM,wo=>if sZ<x37 then(if 0≤sZ then(if sZ<(wo.length:Int) then(if sZ<(sl.length:Int) then(if((dn wo sZ).length:Int)=((aM sl sZ).f4) then dq.l0 k x37 (wrap64 (sZ+1)) Ew Ex Ey Ez EA ED sl zM wo else some false) else none) else none) else none) else some true
end
def dq.f(k:Nat)(az ax aA aC aV aX:Int)(aw:List cU)(aD:List dJ)(aG:List (List Int)):Option Bool:=if(aw.length:Int)=ax then(if(aD.length:Int)=aA then(dq.j0 k ((aG.length:Int) !=(aw.length:Int)) az ax aA aC aV aX aw aD aG) else(dq.j0 k ((aD.length:Int) !=aA) az ax aA aC aV aX aw aD aG)) else(dq.j0 k ((aw.length:Int) !=ax) az ax aA aC aV aX aw aD aG)
theorem dq.calls(k:Nat)(az ax aA aC aV aX:Int)(cN:Option Addr)(cF:Nat)(aw:List cU)(cy:Option Addr)(cA:Nat)(aD:List dJ)(cC:Option Addr)(cB:Nat)(aG:List (List Int))(r:Bool)(w:World)(dZ:Kd.C gW w cN aw.length aw)(ef:aw.length≤cF)(eb:Kd.C gQ w cy aD.length aD)(en:aD.length≤cA)(dL:Kd.C (Kd.slice 5 (Kd.int .u8)) w cC aG.length aG)(ew:aG.length≤cB)(h:dq.f k az ax aA aC aV aX aw aD aG=some r):
 Calls Tryz.prog 19 #[.agg #[.int .i64 az,.int .i64 ax,.int .i64 aA,.int .i64 aC,.int .i64 aV,.int .i64 aX,.slice cN aw.length cF,.slice cy aD.length cA,.slice cC aG.length cB]] w fun e w'=>e= .returned (.bool r)∧Below w.heap.size w w':=by
 have Ba:=Tryz.underlying28;have fD:=ak dZ;have i':=ak ef;clear dZ ef;have iw:=ak eb;have ji:=ak en;clear eb en;have ix:=ak dL;have jS:=ak ew;clear dL ew;have HB:=ak (Below.refl w.heap.size w);have H:=ak h;clear h;unfold dq.f at H;go_enter Tryz.func19,Tryz.ntmps19
 go_upto_if 4 with((with_reducible refine gd 1 ?_);refine bY 28 #[.int .i64 az,.int .i64 ax,.int .i64 aA,.int .i64 aC,.int .i64 aV,.int .i64 aX,.slice cN aw.length cF,.slice cy aD.length cA,.slice cC aG.length cB] fun Xp w3 ja aqw HB=>?_;obtain⟨Ed,Ee⟩:=cf ja)
 repeat (go_quiet (first|fail);try go_wp2_with fail)
 (try simp only[Act.put,List.setIfInBounds_toArray,List.set_cons_zero,List.set_cons_succ])
 go_cut [4] (fun v4 wc=>∃(kq:Nat)(jG:Bool),v4= .bool jG∧ae (dq.j0 kq jG az ax aA aC aV aX aw aD aG=some r)∧ae (kq≤k)∧ae (wc.heap[Xp]? =some (.cells #[.int .i64 az,.int .i64 ax,.int .i64 aA,.int .i64 aC,.int .i64 aV,.int .i64 aX,(.slice cN aw.length cF),(.slice cy aD.length cA),(.slice cC aG.length cB)] 28 (0,0)))∧ae (Below w.heap.size w wc))
 case first=>
  replace H:=iC H;rcases H with⟨c5,H⟩|⟨c5,H⟩
  ·have iG:((aw.length:Int)==ax)=true:=beq_iff_eq.mpr c5;have JR:((aw.length:Int) !=ax)=false:=bne_eq_false_iff_eq.mpr c5;clear c5;(first|rw[iG]|(simp only[bp,bF];rw[iG])|skip);replace H:=iC H;rcases H with⟨c6,H⟩|⟨c6,H⟩
   ·have lu:((aD.length:Int)==aA)=true:=beq_iff_eq.mpr c6;have Gt:((aD.length:Int) !=aA)=false:=bne_eq_false_iff_eq.mpr c6;clear c6;obtain⟨nZ,n9⟩:=cf ja;go_wp2
    repeat (go_quiet (first|fail);try go_wp2_with fail)
    go_meet
    case rel=>exact⟨_,(((aG.length:Int) !=(aw.length:Int))),rs,H,⟨by first|omega|exact Nat.le_refl _⟩,⟨bu ja⟩,⟨bl⟩⟩
   ·have lu:((aD.length:Int)==aA)=false:=beq_eq_false_iff_ne.mpr c6;have Gt:((aD.length:Int) !=aA)=true:=bne_iff_ne.mpr c6;obtain⟨uR,uS⟩:=cf ja;go_wp2
    repeat (go_quiet (first|fail);try go_wp2_with fail)
    go_meet
    case rel=>exact⟨_,(((aD.length:Int) !=aA)),rs,H,⟨by first|omega|exact Nat.le_refl _⟩,⟨bu ja⟩,⟨bl⟩⟩
  ·have iG:((aw.length:Int)==ax)=false:=beq_eq_false_iff_ne.mpr c5;have JR:((aw.length:Int) !=ax)=true:=bne_iff_ne.mpr c5;(first|rw[iG]|(simp only[bp,bF];rw[iG])|skip);go_wp2
   repeat (go_quiet (first|fail);try go_wp2_with fail)
   go_meet
   case rel=>exact⟨_,(((aw.length:Int) !=ax)),rs,H,⟨by first|omega|exact Nat.le_refl _⟩,⟨bu ja⟩,⟨bl⟩⟩
 case rest=>
  clear H;obtain⟨kq,jG,rfl,H,JQ,ja,HB⟩:=hcut;cases kq with
  |zero=>exact absurd H.1 (by simp [dq.j0])
  |succ Ec=>
   simp only[dq.j0] at H;replace H:=ib H;rcases H with⟨rfl,H⟩|⟨rfl,H⟩
   ·obtain rfl:=s1 H;go_wp2
    repeat (go_quiet (first|fail);try go_wp2_with fail)
    go_ret;exact⟨re,bl⟩
   ·replace H:=bI H;obtain⟨t162,L9,H⟩:=H;(try dsimp only at H);replace H:=ib H;rcases H with⟨rfl,H⟩|⟨rfl,H⟩
    ·replace H:=bI H;obtain⟨t163,A12,H⟩:=H;(try dsimp only at H);replace H:=ib H;rcases H with⟨rfl,H⟩|⟨rfl,H⟩
     ·obtain⟨pX,pY⟩:=cf ja
      go_wp2_with(first|(go_at_call 40;(with_reducible refine(bW.calls Ec _ _ aw true _ (cu fD) i'.1 L9.1).mono ?_);rintro e TS ⟨rfl,hb⟩;replace ja:=qk ja hb;replace HB:=qb hb;clear hb;obtain⟨ot,ou⟩:=cf ja)|(go_at_call 41;(with_reducible refine(bb.calls Ec _ _ aD true _ (cu iw) ji.1 A12.1).mono ?_);rintro e WZ ⟨rfl,hb⟩;replace ja:=qk ja hb;replace HB:=qb hb;clear hb;obtain⟨pZ,p7⟩:=cf ja))
      repeat (go_quiet (first|fail);try go_wp2_with fail)
      go_loopg [38] Ec (fun kq v38 w'=>∃(kr:Int),v38= .int .i64 kr∧ae (dq.l0 kq (aw.length:Int) kr az ax aA aC aV aX aw aD aG=some r)∧ae (kq≤Ec)∧ae (w'.heap[Xp]? =some (.cells #[.int .i64 az,.int .i64 ax,.int .i64 aA,.int .i64 aC,.int .i64 aV,.int .i64 aX,(.slice cN aw.length cF),(.slice cy aD.length cA),(.slice cC aG.length cB)] 28 (0,0)))∧ae (Below w.heap.size w w'))
      case atStart=>exact⟨0,rs,H,⟨Nat.le_refl _⟩,⟨bu ja⟩,⟨bl⟩⟩
      case round=>
       clear H;obtain⟨kr,rfl,H,NI,ja,HB⟩:=hrel;cases gk with
       |zero=>exact absurd H.1 (by simp [dq.l0])
       |succ k2=>
        simp only[dq.l0] at H;replace H:=ic H;rcases H with⟨tr,H⟩|⟨tr,H⟩
        ·replace H:=iO H;obtain⟨rv,H⟩:=H;replace H:=iO H;obtain⟨Xq,H⟩:=H;replace H:=iO H;obtain⟨aqx,H⟩:=H;replace H:=iC H;rcases H with⟨G5,H⟩|⟨G5,H⟩
         ·have Bb:(((dn aG kr).length:Int)==((aM aw kr).f4))=true:=beq_iff_eq.mpr G5;have Md:(((dn aG kr).length:Int) !=((aM aw kr).f4))=false:=bne_eq_false_iff_eq.mpr G5;clear G5;obtain⟨EE,EI⟩:=cf ja;obtain⟨aeI,aac,aad,aae,wq,wu,wv⟩:=oY ix.1 kr dt dt;cases aae;replace wq:=hy wq;have Ux:=ak wv;have Uy:=ak wu;clear wv wu;have alI:=tp (0≤(kr:Int));have alJ:=tp (kr<(aG.length:Int));obtain⟨aeJ,TQ,Uz,UA,UB,UC,UD⟩:=gq (cw fD) kr dt dt;cases TQ;have alK:=tp (0≤(kr:Int));have alL:=tp (kr<(aw.length:Int));go_wp2
          repeat (go_quiet (first|fail);try go_wp2_with fail)
          go_roundg k2
          case measure=>have:=JQ.1;have:=NI.1;omega
          case rel=>exact⟨(wrap64 (kr+1)),rs,H,⟨by have:=JQ.1;have:=NI.1;omega⟩,⟨bu ja⟩,⟨bl⟩⟩
         ·have Bb:(((dn aG kr).length:Int)==((aM aw kr).f4))=false:=beq_eq_false_iff_ne.mpr G5;have Md:(((dn aG kr).length:Int) !=((aM aw kr).f4))=true:=bne_iff_ne.mpr G5;obtain rfl:=s1 H;obtain⟨vU,vV⟩:=cf ja;obtain⟨aeI,aac,aad,aae,wq,wu,wv⟩:=oY ix.1 kr dt dt;cases aae;replace wq:=hy wq;have Ux:=ak wv;have Uy:=ak wu;clear wv wu;have alI:=tp (0≤(kr:Int));have alJ:=tp (kr<(aG.length:Int));obtain⟨aeJ,TQ,Uz,UA,UB,UC,UD⟩:=gq (cw fD) kr dt dt;cases TQ;have alK:=tp (0≤(kr:Int));have alL:=tp (kr<(aw.length:Int));go_wp2
          repeat (go_quiet (first|fail);try go_wp2_with fail)
          go_ret;exact⟨re,bl⟩
        ·obtain rfl:=s1 H;go_wp2
         repeat (go_quiet (first|fail);try go_wp2_with fail)
         go_ret;exact⟨re,bl⟩
     ·obtain rfl:=s1 H;obtain⟨zy,zz⟩:=cf ja
      go_wp2_with(first|(go_at_call 40;(with_reducible refine(bW.calls Ec _ _ aw true _ (cu fD) i'.1 L9.1).mono ?_);rintro e w27 ⟨rfl,hb⟩;replace ja:=qk ja hb;replace HB:=qb hb;clear hb;obtain⟨UE,UF⟩:=cf ja)|(go_at_call 41;(with_reducible refine(bb.calls Ec _ _ aD false _ (cu iw) ji.1 A12.1).mono ?_);rintro e w29 ⟨rfl,hb⟩;replace ja:=qk ja hb;replace HB:=qb hb;clear hb))
      repeat (go_quiet (first|fail);try go_wp2_with fail)
      go_ret;exact⟨re,bl⟩
    ·obtain rfl:=s1 H;obtain⟨vW,vX⟩:=cf ja
     go_wp2_with(go_at_call 40;(with_reducible refine(bW.calls Ec _ _ aw false _ (cu fD) i'.1 L9.1).mono ?_);rintro e LX ⟨rfl,hb⟩;replace ja:=qk ja hb;replace HB:=qb hb;clear hb)
     repeat (go_quiet (first|fail);try go_wp2_with fail)
     go_ret;exact⟨re,bl⟩
end Go.Proofs.YtmhdcgmfbjcndaaGreatDoor.P
