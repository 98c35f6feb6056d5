import Derived.Test.YtmhdcgmfbjcndaaGreatDoorB13
set_option linter.unusedVariables false
set_option linter.unusedSimpArgs false
set_option maxRecDepth 100000
set_option maxHeartbeats 8000000
namespace Go.Proofs.YtmhdcgmfbjcndaaGreatDoor.P
open Go.RowKit Go.Proofs.aa.ag Go.Proofs.aa.ao Go.Proofs.aa.ay
attribute [local go_sem] bD bw cj bV bj bk bG bH
def bh.l0:Nat→Int→Int→List Int→List (List Int)→List dJ→Option (List Int×(List (List Int))×(List dJ))
 |0,_,_,_,_,_=>none
 |k+1,x18,GU,wF,sq,wG=>if GU<x18 then(if 0≤GU then(if GU<(sq.length:Int) then((dv.f (dn sq GU)).bind fun t288=>(bh.l0 k x18 (wrap64 (GU+1)) wF (sq.set (GU:Int).toNat t288) wG)) else none) else none) else some (wF,sq,wG)
def bh.f(k:Nat)(fp:List Int)(fP:List (List Int))(iW:List dJ):Option (List Int×(List (List Int))×(List dJ)):=(oN.f fp).bind fun t278=>((dr.f fP).bind fun t281=>((jh.f iW).bind fun t284=>(bh.l0 k (t281.length:Int) 0 t278 t281 t284)))
def bh.T1:Bool×List (List Nat×List Nat):=(true,[([],[]),([0],[0]),([1],[1]),([],[]),([3],[3]),([4,2],[4]),([],[]),([6],[6]),([7,5],[7]),([0,1,2,3,4,6,7],[]),([9,2,8,0,1,2,3,4,6,7],[2,9]),([0,1,2,3,4,5,6,7,9,10],[]),([11,5,10,0,1,2,3,4,5,6,7,9,10],[5,11]),([0,1,2,3,4,5,6,7,8,9,10,11,12],[]),([13,8,12,0,1,2,3,4,5,6,7,8,9,10,11,12],[8,13])])
def bh.B1:List Nat:=[0,1,3,0,8,31,0,64,255,223,1023,2047,4095,8191,16383]
theorem bh.aar:mb .any (opsOf Tryz.f89 1)=bh.T1:=by kernel_rfl
theorem bh.QK:kR bh.T1.2 bh.B1=true:=by kernel_rfl
def bh.T5:Bool×List (List Nat×List Nat):=(true,[([],[]),([0],[0]),([],[]),([],[]),([3],[3]),([],[]),([4,5],[4,5]),([6],[6]),([7],[7]),([1,2,0,1,2,3,4,5,6,7,8],[1,2]),([9,8,8,0,1,2,3,4,5,6,7,8],[8,9])])
def bh.B5:List Nat:=[0,1,0,0,8,0,56,120,248,511,1023]
theorem bh.aas:mb .any (opsOf Tryz.f89 5)=bh.T5:=by kernel_rfl
theorem bh.QL:kR bh.T5.2 bh.B5=true:=by kernel_rfl
theorem bh.calls(k:Nat)(rE:Option Addr)(rF:Nat)(fp:List Int)(qG:Option Addr)(qH:Nat)(fP:List (List Int))(pw:Option Addr)(pz:Nat)(iW:List dJ)(r1:List Int)(r2:List (List Int))(r3:List dJ)(w0 w:World)(ju:Below w0.heap.size w0 w)(yD:Kd.C (Kd.int .i64) w rE fp.length fp)(yE:fp.length≤rF)(yF:Kd.C (Kd.slice 5 (Kd.int .u8)) w0 qG fP.length fP)(yG:fP.length≤qH)(yH:Kd.C gQ w pw iW.length iW)(yI:iW.length≤pz)(h:bh.f k fp fP iW=some (r1,r2,r3)):
 Calls Tryz.prog 89 #[.agg #[.slice rE fp.length rF,.slice qG fP.length qH,.slice pw iW.length pz]] w fun e w'=>∃kT v1_ v2_:Value,e= .returned (.agg #[kT,v1_,v2_])∧Kd.R (Kd.int .i64) 3 w' w.heap.size (fun k_=>(w.heap.size≤k_)) kT r1∧Kd.N (Kd.slice 5 (Kd.int .u8)) 33 w' w.heap.size (fun k_=>(k_<w0.heap.size∨w.heap.size≤k_)∧some k_≠(kT:Value).ownBlock∧some k_≠(v2_:Value).ownBlock) v1_ r2∧Kd.R gQ 58 w' w.heap.size (fun k_=>(w.heap.size≤k_)) v2_ r3∧Below w.heap.size w w':=by
 have XN:=Tryz.underlying118;have yJ:=ak yD;have Q8:=ak yE;clear yD yE;have tz:=ak ju;clear ju;have Bl:=ak yF;have Q9:=ak yG;clear yF yG;have Mw:=ak yH;have Mx:=ak yI;clear yH yI;have HB:=ak (Below.refl w.heap.size w);have H:=ak h;clear h;unfold bh.f at H;replace H:=bI H;obtain⟨t278,A2,H⟩:=H;(try dsimp only at H);replace H:=bI H;obtain⟨t281,A3,H⟩:=H;(try dsimp only at H);replace H:=bI H;obtain⟨t284,A4,H⟩:=H;(try dsimp only at H);go_enter Tryz.func89,Tryz.ntmps89
 try go_wp2_with(first|((with_reducible refine gd 1 ?_);refine bY 118 #[.slice rE fp.length rF,.slice qG fP.length qH,.slice pw iW.length pz] fun dA w5 bE Ho HB=>?_)|((with_reducible refine gd 2 ?_);refine bX 118 #[.slice none 0 0,.slice none 0 0,.slice none 0 0] fun iV w6 dP Hp HB hg hb=>?_;obtain⟨jl,jm⟩:=nn bE hg;replace bE:=qk bE hb;clear hb hg))
 have iR:=ak (aY bE.1);have iT:=ak (aY dP.1);have jQ:=ak (eZ HB.1);clear bE;clear dP;clear HB;have bE:=iR;have dP:=iT;have HB:=jQ;clear iR iT jQ;refine eW (n:=15) (S:=fun w'=>w'.cell? ⟨dA,0,none⟩=some (.slice rE fp.length rF)∧w'.cell? ⟨dA,1,none⟩=some (.slice qG fP.length qH)∧w'.cell? ⟨dA,2,none⟩=some (.slice pw iW.length pz)) (ds:=[10,12,14]) #[false,false,false,false,false,false,false,false,false,false,false,false,false,false,false] (by kernel_rfl) rfl rfl ⟨cL bE 0,cL bE 1,cL bE 2⟩ (fun hHeld=>?_);refine je bh.aar bh.QK (fun eU u9=>?_);generalize w6.drew=w7 at bE dP HB hHeld⊢;refine dd (i:=0) (N:=some 4) (v:= ?_) (a':= ?_) #[true,false,false,false,false,false,false,false,false,false,false,false,false,false,false] rfl rfl (cv eU.1 (by kernel_rfl)) (fun _ _ _ h=>h) (Or.inl ⟨by rfl,?_⟩) ?_ ?_;rotate_left
 ·intro w'
  go_simp
  with_reducible rfl
 rotate_left
 ·simp only[Act.put,List.setIfInBounds_toArray,List.set_cons_zero,List.set_cons_succ,bp,bF];rfl
 refine dd (i:=3) (N:=some 7) (v:= ?_) (a':= ?_) #[true,false,false,true,false,false,false,false,false,false,false,false,false,false,false] rfl rfl (cv eU.1 (by kernel_rfl)) (fun _ _ _ h=>h) (Or.inl ⟨by rfl,?_⟩) ?_ ?_;rotate_left
 ·intro w'
  go_simp
  with_reducible rfl
 rotate_left
 ·simp only[Act.put,List.setIfInBounds_toArray,List.set_cons_zero,List.set_cons_succ,bp,bF];rfl
 refine dd (i:=6) (N:=some 10) (v:= ?_) (a':= ?_) #[true,false,false,true,false,false,true,false,false,false,false,false,false,false,false] rfl rfl (cv eU.1 (by kernel_rfl)) (fun _ _ _ h=>h) (Or.inl ⟨by rfl,?_⟩) ?_ ?_;rotate_left
 ·intro w'
  go_simp
  with_reducible rfl
 rotate_left
 ·simp only[Act.put,List.setIfInBounds_toArray,List.set_cons_zero,List.set_cons_succ,bp,bF];rfl
 refine ke (i:=1) (N:=some 5) (v:= ?_) (a':= ?_) #[true,true,false,true,false,false,true,false,false,false,false,false,false,false,false] rfl rfl (fx eU.1 u9.1 (by kernel_rfl)) (fun _ _ _ h=>h) (Or.inl ⟨by rfl,?_⟩) hHeld ?_ ?_;rotate_left
 ·rintro w' ⟨s0,s1,s2⟩
  go_simp
  with_reducible rfl
 rotate_left
 ·simp only[Act.put,List.setIfInBounds_toArray,List.set_cons_zero,List.set_cons_succ,bp,bF];rfl
 refine ke (i:=4) (N:=some 8) (v:= ?_) (a':= ?_) #[true,true,false,true,true,false,true,false,false,false,false,false,false,false,false] rfl rfl (fx eU.1 u9.1 (by kernel_rfl)) (fun _ _ _ h=>h) (Or.inl ⟨by rfl,?_⟩) hHeld ?_ ?_;rotate_left
 ·rintro w' ⟨s0,s1,s2⟩
  go_simp
  with_reducible rfl
 rotate_left
 ·simp only[Act.put,List.setIfInBounds_toArray,List.set_cons_zero,List.set_cons_succ,bp,bF];rfl
 refine ke (i:=7) (N:=some 11) (v:= ?_) (a':= ?_) #[true,true,false,true,true,false,true,true,false,false,false,false,false,false,false] rfl rfl (fx eU.1 u9.1 (by kernel_rfl)) (fun _ _ _ h=>h) (Or.inl ⟨by rfl,?_⟩) hHeld ?_ ?_;rotate_left
 ·rintro w' ⟨s0,s1,s2⟩
  go_simp
  with_reducible rfl
 rotate_left
 ·simp only[Act.put,List.setIfInBounds_toArray,List.set_cons_zero,List.set_cons_succ,bp,bF];rfl
 refine qB (i:=2) (N:=some 6) #[true,true,true,true,true,false,true,true,false,false,false,false,false,false,false] rfl rfl (fR eU.1 (by kernel_rfl)) (by decide) (fun K hK=>?_);refine pN Tryz.func133 #[.slice rE fp.length rF] ?_
 with_reducible refine(oN.calls _ _ fp t278 _ ?di ?gJ A2.1).mono ?_
 (case di=>repeat (first|exact(Kd.aj yJ.1 HB.1)|(with_reducible refine Kd.cD ?_ _)|(with_reducible refine Kd.cE ?_ _)|(with_reducible refine Kd.cY ?_)));(case gJ=>exact Q8.1);rintro e w8 ⟨aat,rfl,gu,hb⟩;refine⟨_,rfl,?_⟩;have iR:=ak (Kd.bO (Kd.rZ (M:=fun k_=>(w.heap.size≤k_)) gu (aq bl) (fun k_ h_=>h_)) (aq bl));have iT:=qk bE hb;have jQ:=qk dP hb;have lP:=qb hb;clear bE;clear dP;clear HB;have lC:=iR;have bE:=iT;have dP:=jQ;have HB:=lP;clear iR iT jQ lP;(try clear hb);(try clear iq);(try clear hk);(try clear hi);(try clear gu);refine ft hK (fun hHeld=>?_);clear hK K;refine dd (i:=9) (N:=some 13) (v:= ?_) (a':= ?_) #[true,true,true,true,true,false,true,true,false,true,false,false,false,false,false] rfl rfl (cv eU.1 (by kernel_rfl)) (fun _ _ _ h=>h) (Or.inl ⟨by rfl,?_⟩) ?_ ?_;rotate_left
 ·intro w'
  go_simp
  with_reducible rfl
 rotate_left
 ·simp only[Act.put,List.setIfInBounds_toArray,List.set_cons_zero,List.set_cons_succ,bp,bF];rfl
 refine qB (i:=5) (N:=some 9) #[true,true,true,true,true,true,true,true,false,true,false,false,false,false,false] rfl rfl (fR eU.1 (by kernel_rfl)) (by decide) (fun K hK=>?_);refine pN Tryz.func134 #[.slice qG fP.length qH] ?_
 with_reducible refine(dr.calls w0 _ _ fP t281 _ Bl.1 ?di ?gJ A3.1).mono ?_
 (case di=>exact tz.1.trans ((bl:Below w.heap.size w _).mono tz.1.size));(case gJ=>exact Q9.1);rintro e w9 ⟨afl,rfl,gu,hb⟩;refine⟨_,rfl,?_⟩;have iR:=qr lC hb
 have iT:=ak (Kd.Lo (Kd.kF (ok':=fun k_=>(k_<w0.heap.size∨w.heap.size≤k_)∧some k_≠(aat:Value).ownBlock∧k_≠dA∧k_≠iV) gu (fun k_ xn=>by
  have q1:=Kd.iE lC.1;have q3:=Kd.pM lC.1;have q5:=Ho.1;have q6:=Hp.1;have q7:=aN bE.1;have q8:=aN dP.1;have q9:=tz.1.size;have q10:=HB.1.size;refine⟨by rcases xn with xn|xn<;>first|(left;omega)|(right;omega),fun e=>?_,fun e=>?_,fun e=>?_⟩
  ·have:=q1 k_ e.symm;have:=q3 k_ e.symm;rcases xn with xn|xn<;>omega
  ·rcases xn with xn|xn<;>omega
  ·rcases xn with xn|xn<;>omega)) (aq HB.1))
 have jQ:=qk bE hb;have lP:=qk dP hb;have tA:=qb hb;clear lC;clear bE;clear dP;clear HB;have lC:=iR;have rB:=iT;have bE:=jQ;have dP:=lP;have HB:=tA;clear iR iT jQ lP tA;(try clear hb);(try clear iq);(try clear hk);(try clear hi);(try clear gu);refine ft hK (fun hHeld=>?_);clear hK K;refine qB (i:=8) (N:=some 12) #[true,true,true,true,true,true,true,true,true,true,false,false,false,false,false] rfl rfl (fR eU.1 (by kernel_rfl)) (by decide) (fun K hK=>?_);refine pN Tryz.func91 #[.slice pw iW.length pz] ?_
 with_reducible refine(jh.calls _ _ iW t284 _ ?di ?gJ A4.1).mono ?_
 (case di=>repeat (first|exact(Kd.aj Mw.1 HB.1)|(with_reducible refine Kd.cD ?_ _)|(with_reducible refine Kd.cE ?_ _)|(with_reducible refine Kd.cY ?_)));(case gJ=>exact Mx.1);rintro e rN ⟨ami,rfl,gu,hb⟩;refine⟨_,rfl,?_⟩;have iR:=qr lC hb;have iT:=ak (Kd.Au (by(with_reducible repeat (first|apply Kd.mY|apply Kd.qA|apply Kd.lF));exact rB.1) (Kd.iE gu) hb);have jQ:=ak (Kd.bO (Kd.rZ (M:=fun k_=>(w.heap.size≤k_)) gu (aq bl) (fun k_ h_=>h_)) (aq bl));have lP:=qk bE hb;have tA:=qk dP hb;have Bh:=qb hb;clear lC;clear rB;clear bE;clear dP;clear HB;have lC:=iR;have rB:=iT;have Hq:=jQ;have bE:=lP;have dP:=tA;have HB:=Bh;clear iR iT jQ lP tA Bh;(try clear hb);(try clear iq);(try clear hk);(try clear hi);(try clear gu);obtain⟨lJ,lK,Ke⟩:=Kd.bm lC.1;(first|subst Ke|(injection Ke with uG Co uH;have Cp:=uG.symm;have Cq:=uH.symm;clear uG Co uH;subst Cp;subst Cq));obtain⟨rC,rD,Kg⟩:=Kd.mZ rB.1;(first|subst Kg|(injection Kg with uG Co uH;have Cp:=uG.symm;have Cq:=uH.symm;clear uG Co uH;subst Cp;subst Cq));obtain⟨tB,tC,QM⟩:=Kd.bm Hq.1;(first|subst QM|(injection QM with uG Co uH;have Cp:=uG.symm;have Cq:=uH.symm;clear uG Co uH;subst Cp;subst Cq));refine ft hK (fun hHeld=>?_);clear hK K;refine qL (i:=10) (N:=none) #[true,true,true,true,true,true,true,true,true,true,true,false,false,false,false] rfl rfl (fR eU.1 (by kernel_rfl)) (by decide) (fun K hK=>?_);have amj:rN.cell? ⟨dA,0,none⟩=some (.slice rE fp.length rF):=cL bE 0;have afn:=fZ bE;have U1:=jm.1;have U2:=jl.1;refine xC ?_;refine hK.out _ _ ?_;clear hK K;refine dd (i:=11) (N:=some 14) (v:= ?_) (a':= ?_) #[true,true,true,true,true,true,true,true,true,true,true,true,false,false,false] rfl rfl (cv eU.1 (by kernel_rfl)) (fun _ _ _ h=>h) (Or.inl ⟨by rfl,?_⟩) ?_ ?_;rotate_left
 ·intro w'
  go_simp
  with_reducible rfl
 rotate_left
 ·simp only[Act.put,List.setIfInBounds_toArray,List.set_cons_zero,List.set_cons_succ,bp,bF];rfl
 refine qL (i:=12) (N:=none) #[true,true,true,true,true,true,true,true,true,true,true,true,true,false,false] rfl rfl (fR eU.1 (by kernel_rfl)) (by decide) (fun K hK=>?_);have amk:rN.cell? ⟨dA,1,none⟩=some (.slice qG fP.length qH):=cL bE 1;have afo:=fZ bE;have U3:=jm.1;have U4:=jl.1;refine xC ?_;refine hK.out _ _ ?_;clear hK K;refine dd (i:=13) (N:=some 15) (v:= ?_) (a':= ?_) #[true,true,true,true,true,true,true,true,true,true,true,true,true,true,false] rfl rfl (cv eU.1 (by kernel_rfl)) (fun _ _ _ h=>h) (Or.inl ⟨by rfl,?_⟩) ?_ ?_;rotate_left
 ·intro w'
  go_simp
  with_reducible rfl
 rotate_left
 ·simp only[Act.put,List.setIfInBounds_toArray,List.set_cons_zero,List.set_cons_succ,bp,bF];rfl
 refine qL (i:=14) (N:=none) #[true,true,true,true,true,true,true,true,true,true,true,true,true,true,true] rfl rfl (fR eU.1 (by kernel_rfl)) (by decide) (fun K hK=>?_);have aml:rN.cell? ⟨dA,2,none⟩=some (.slice pw iW.length pz):=cL bE 2;have afp:=fZ bE;have U5:=jm.1;have U6:=jl.1;refine xC ?_;refine hK.out _ _ ?_;clear hK K;refine gF (mc eU.1 (by kernel_rfl)) ?_;have PI:=jl.1;have PJ:=jm.1;obtain⟨pZ,p7⟩:=cf bE
 try go_wp2
 go_loopg [19] k (fun kq ZY w'=>∃(eo:Int)(eG:List (List Int))(Fa:Value),ZY= .int .i64 eo∧ae (bh.l0 kq (t281.length:Int) eo t278 eG t284=some (r1,r2,r3))∧ae (kq≤k)∧ae (Kd.R (Kd.int .i64) 3 w' w.heap.size (fun k_=>(w.heap.size≤k_)) (.slice lJ t278.length lK) t278)∧ae (Kd.N (Kd.slice 5 (Kd.int .u8)) 33 w' w.heap.size (fun k_=>(k_<w0.heap.size∨w.heap.size≤k_)∧some k_≠((.slice lJ t278.length lK):Value).ownBlock∧some k_≠((.slice tB t284.length tC):Value).ownBlock∧k_≠dA∧k_≠iV) Fa eG)∧ae (Kd.R gQ 58 w' w.heap.size (fun k_=>(w.heap.size≤k_)) (.slice tB t284.length tC) t284)∧ae (w'.heap[dA]? =some (.cells #[(.slice lJ t278.length lK),Fa,(.slice tB t284.length tC)] 118 (0,0)))∧ae (w'.heap[iV]? =some (.cells #[(.slice none 0 0),(.slice none 0 0),(.slice none 0 0)] 118 (0,0)))∧ae (Below w.heap.size w w'))
 case atStart=>exact⟨0,t281,(.slice rC t281.length rD),rs,H,⟨Nat.le_refl _⟩,⟨by(with_reducible repeat (first|apply Kd.bQ|apply Kd.dh|apply Kd.cR));exact Kd.bJ (Kd.fu (p:=⟨dA,2,none⟩) (Kd.fu (p:=⟨dA,1,none⟩) (Kd.fu (p:=⟨dA,0,none⟩) (Kd.dc lC.1 bE.1 (by decide)) (fun _ hk=>hk.2) (.slice lJ t278.length lK)) (fun _ hk=>hk.2) (.slice rC t281.length rD)) (fun _ hk=>hk.2) (.slice tB t284.length tC)) (fun _ hk=>hk.1.1)⟩,⟨by(with_reducible repeat (first|apply Kd.mY|apply Kd.qA|apply Kd.lF));exact Kd.kF (Kd.lO (p:=⟨dA,2,none⟩) (Kd.lO (p:=⟨dA,1,none⟩) (Kd.lO (p:=⟨dA,0,none⟩) (Kd.kF rB.1 (fun k_ hk=>(⟨hk,hk.1.2.2.1⟩:_∧k_≠dA))) (fun _ hk=>hk.2) (.slice lJ t278.length lK)) (fun _ hk=>hk.2) (.slice rC t281.length rD)) (fun _ hk=>hk.2) (.slice tB t284.length tC)) (fun _ hk=>⟨hk.1.1.1,⟨hk.1.1.2.1,⟨hk.1.2,⟨hk.1.1.2.2.1,hk.1.1.2.2.2⟩⟩⟩⟩)⟩,⟨by(with_reducible repeat (first|apply Kd.bQ|apply Kd.dh|apply Kd.cR));exact Kd.bJ (Kd.fu (p:=⟨dA,2,none⟩) (Kd.fu (p:=⟨dA,1,none⟩) (Kd.fu (p:=⟨dA,0,none⟩) (Kd.dc Hq.1 bE.1 (by decide)) (fun _ hk=>hk.2) (.slice lJ t278.length lK)) (fun _ hk=>hk.2) (.slice rC t281.length rD)) (fun _ hk=>hk.2) (.slice tB t284.length tC)) (fun _ hk=>hk.1.1)⟩,⟨by(with_reducible repeat (first|refine cW ?_ _|refine aY ?_|refine ar ?_ _));refine aQ (cs:= #[.slice lJ t278.length lK,.slice rC t281.length rD,.slice pw iW.length pz]) ?_ 2 _ rfl;(with_reducible repeat (first|refine cW ?_ _|refine aY ?_|refine ar ?_ _));refine aQ (cs:= #[.slice lJ t278.length lK,.slice qG fP.length qH,.slice pw iW.length pz]) ?_ 1 _ rfl;(with_reducible repeat (first|refine cW ?_ _|refine aY ?_|refine ar ?_ _));refine aQ (cs:= #[.slice rE fp.length rF,.slice qG fP.length qH,.slice pw iW.length pz]) ?_ 0 _ rfl;(with_reducible repeat (first|refine cW ?_ _|refine aY ?_|refine ar ?_ _));exact bE.1⟩,⟨bu dP⟩,⟨bl⟩⟩
 case round=>
  clear H;obtain⟨eo,eG,Fa,rfl,H,iB,j8,ev,j9,bE,dP,HB⟩:=hrel;cases gk with
  |zero=>exact absurd H.1 (by simp [bh.l0])
  |succ k1=>
   simp only[bh.l0] at H;replace H:=ic H;rcases H with⟨tr,H⟩|⟨tr,H⟩
   ·replace H:=iO H;obtain⟨rv,H⟩:=H;replace H:=iO H;obtain⟨Xq,H⟩:=H;replace H:=bI H;obtain⟨t288,A22,H⟩:=H;(try dsimp only at H);obtain⟨aau,Hr⟩:=nm (eG.set (eo:Int).toNat t288);rw[←Hr.1] at H
    try go_wp2
    have iR:=ak (Kd.cR j8.1);have iT:=ak (Kd.lF ev.1);have jQ:=ak (Kd.cR j9.1);have lP:=ak (aY bE.1);have tA:=ak (aY dP.1);have Bh:=ak (eZ HB.1);clear j8;clear ev;clear j9;clear bE;clear dP;clear HB;have j8:=iR;have ev:=iT;have j9:=jQ;have bE:=lP;have dP:=tA;have HB:=Bh;clear iR iT jQ lP tA Bh;obtain⟨amm,ER,QN⟩:=Kd.mZ ev.1;(first|subst QN|(injection QN with uG Co uH;have Cp:=uG.symm;have Cq:=uH.symm;clear uG Co uH;subst Cp;subst Cq));have ET:0≤(eo:Int):=dt;have EU:eo<(eG.length:Int):=dt;obtain⟨Hs,Bi,Bj,aav,oF,wH,wI⟩:=oY (Kd.gX ev.1).2.2 eo ET EU;cases aav;obtain⟨afr,Kh,Ki,Bk⟩:=Kd.WD ev.1 [] eo ET (by first|exact EU|exact dt|(have e_:=(Kd.gX ev.1).1;omega));obtain⟨U7,U8,rfl,sr,ss⟩:=Kd.jX Ki;have oG:=Bk 0 _ rfl;rw[Nat.add_zero,show((Kd.slice 5 (Kd.int .u8))).sz=1 from rfl,Nat.mul_one] at oG;replace oG:=Option.some.inj (oG.symm.trans oF);injection oG with QO aaw QP
    rw[QO] at ss;rw[QP] at sr;have oH:=ak (show Kd.V (Kd.int .u8) 5 _ w.heap.size _ _ (dn eG eo) from Kd.za sr ss);clear QO aaw QP ss sr;clear Bk Kh;have jL:=ak wI;have EV:=ak wH;clear wI wH;replace ET:=eq_true ET;replace EU:=eq_true EU;refine eW (n:=11) (S:=fun w'=>w'.cell? ⟨dA,0,none⟩=some (.slice lJ t278.length lK)∧w'.cell? ⟨dA,1,none⟩=some (.slice (some Hs) eG.length ER)∧w'.cell? ⟨dA,2,none⟩=some (.slice tB t284.length tC)∧w'.cell? (Hs.add (eo).toNat)=some (.slice Bi (dn eG eo).length Bj)) (ds:=[10]) #[false,false,false,false,false,false,false,false,false,false,false] (by kernel_rfl) rfl rfl ⟨cL bE 0,cL bE 1,cL bE 2,oF⟩ (fun hHeld=>?_);refine je bh.aas bh.QL (fun eU u9=>?_);generalize wr.drew=ZX at j8 ev j9 bE dP HB oH jL oF hHeld⊢;refine dd (i:=0) (N:=some 22) (v:= ?_) (a':= ?_) #[true,false,false,false,false,false,false,false,false,false,false] rfl rfl (cv eU.1 (by kernel_rfl)) (fun _ _ _ h=>h) (Or.inl ⟨by rfl,?_⟩) ?_ ?_;rotate_left
    ·intro w'
     go_simp
     with_reducible rfl
    rotate_left
    ·simp only[Act.put,List.setIfInBounds_toArray,List.set_cons_zero,List.set_cons_succ,bp,bF];rfl
    refine dd (i:=2) (N:=some 24) (v:= ?_) (a':= ?_) #[true,false,true,false,false,false,false,false,false,false,false] rfl rfl (cv eU.1 (by kernel_rfl)) (fun _ _ _ h=>h) (Or.inl ⟨by rfl,?_⟩) ?_ ?_;rotate_left
    ·intro w'
     go_simp
     with_reducible rfl
    rotate_left
    ·simp only[Act.put,List.setIfInBounds_toArray,List.set_cons_zero,List.set_cons_succ,bp,bF];rfl
    refine dd (i:=3) (N:=some 25) (v:= ?_) (a':= ?_) #[true,false,true,true,false,false,false,false,false,false,false] rfl rfl (cv eU.1 (by kernel_rfl)) (fun _ _ _ h=>h) (Or.inl ⟨by rfl,?_⟩) ?_ ?_;rotate_left
    ·intro w'
     go_simp
     with_reducible rfl
    rotate_left
    ·simp only[Act.put,List.setIfInBounds_toArray,List.set_cons_zero,List.set_cons_succ,bp,bF];rfl
    refine dd (i:=5) (N:=some 27) (v:= ?_) (a':= ?_) #[true,false,true,true,false,true,false,false,false,false,false] rfl rfl (cv eU.1 (by kernel_rfl)) (fun _ _ _ h=>h) (Or.inl ⟨by rfl,?_⟩) ?_ ?_;rotate_left
    ·intro w'
     go_simp
     with_reducible rfl
    rotate_left
    ·simp only[Act.put,List.setIfInBounds_toArray,List.set_cons_zero,List.set_cons_succ,bp,bF];rfl
    refine ke (i:=1) (N:=some 23) (v:= ?_) (a':= ?_) #[true,true,true,true,false,true,false,false,false,false,false] rfl rfl (fx eU.1 u9.1 (by kernel_rfl)) (fun _ _ _ h=>h) (Or.inl ⟨by rfl,?_⟩) hHeld ?_ ?_;rotate_left
    ·rintro w' ⟨s0,s1,s2,s3⟩
     go_simp
     with_reducible rfl
    rotate_left
    ·simp only[Act.put,List.setIfInBounds_toArray,List.set_cons_zero,List.set_cons_succ,bp,bF];rfl
    refine ke (i:=4) (N:=some 26) (v:= ?_) (a':= ?_) #[true,true,true,true,true,true,false,false,false,false,false] rfl rfl (fx eU.1 u9.1 (by kernel_rfl)) (fun _ _ _ h=>h) (Or.inl ⟨by rfl,?_⟩) hHeld ?_ ?_;rotate_left
    ·rintro w' ⟨s0,s1,s2,s3⟩
     go_simp
     with_reducible rfl
    rotate_left
    ·simp only[Act.put,List.setIfInBounds_toArray,List.set_cons_zero,List.set_cons_succ,bp,bF];rfl
    refine dd (i:=6) (N:=some 28) (v:= ?_) (a':= ?_) #[true,true,true,true,true,true,true,false,false,false,false] rfl rfl (cv eU.1 (by kernel_rfl)) (fun _ _ _ h=>h) (Or.inl ⟨by rfl,?_⟩) ?_ ?_;rotate_left
    ·intro w'
     go_simp
     with_reducible rfl
    rotate_left
    ·simp only[Act.put,List.setIfInBounds_toArray,List.set_cons_zero,List.set_cons_succ,bp,bF];rfl
    refine ke (i:=7) (N:=some 29) (v:= ?_) (a':= ?_) #[true,true,true,true,true,true,true,true,false,false,false] rfl rfl (fx eU.1 u9.1 (by kernel_rfl)) (fun _ _ _ h=>h) (Or.inl ⟨by rfl,?_⟩) hHeld ?_ ?_;rotate_left
    ·rintro w' ⟨s0,s1,s2,s3⟩
     go_simp
     with_reducible rfl
    rotate_left
    ·simp only[Act.put,List.setIfInBounds_toArray,List.set_cons_zero,List.set_cons_succ,bp,bF];rfl
    refine qB (i:=8) (N:=some 30) #[true,true,true,true,true,true,true,true,true,false,false] rfl rfl (fR eU.1 (by kernel_rfl)) (by decide) (fun K hK=>?_);refine pN Tryz.func92 #[.slice Bi (dn eG eo).length Bj] ?_
    with_reducible refine(dv.calls _ _ (dn eG eo) t288 _ ?di ?gJ A22.1).mono ?_
    (case di=>repeat (first|exact(by repeat (first|(with_reducible exact jL.1)|(with_reducible refine Kd.cD ?_ _)|(with_reducible refine Kd.cE ?_ _)|(with_reducible refine Kd.cY ?_)|exact jL.1))|(with_reducible refine Kd.cD ?_ _)|(with_reducible refine Kd.cE ?_ _)|(with_reducible refine Kd.cY ?_)));(case gJ=>exact EV.1);rintro e w26 ⟨amn,rfl,gu,hb⟩;obtain⟨QQ,QR,rfl⟩:=Kd.bm gu;have amL:=(hb.cell (World.block_lt_of_cell? _ _ (hHeld.2.2.2))).trans (hHeld.2.2.2);refine⟨_,rfl,?_⟩;have iR:=qr j8 hb;have iT:=ak (Kd.Au (by(with_reducible repeat (first|apply Kd.mY|apply Kd.qA|apply Kd.lF));exact ev.1) (Kd.iE gu) hb);have jQ:=qr j9 hb;have lP:=ak (Kd.nH (by(with_reducible repeat (first|apply Kd.cV|apply Kd.cT|apply Kd.dz));exact oH.1) (Kd.iE gu) hb);have tA:=ak (Kd.bO (Kd.rZ (M:=fun k_=>(w.heap.size≤k_)) gu (aq bl) (fun k_ h_=>h_)) (aq bl));have Bh:=qk bE hb;have n6_:=qk dP hb;have n7_:=ak (Kd.aj (by repeat (first|(with_reducible exact jL.1)|(with_reducible refine Kd.cD ?_ _)|(with_reducible refine Kd.cE ?_ _)|(with_reducible refine Kd.cY ?_)|exact jL.1)) hb);have n8_:=qb hb;clear j8;clear ev;clear j9;clear oH;clear bE;clear dP;clear jL;clear HB;have j8:=iR;have ev:=iT;have j9:=jQ;have oH:=lP;have QS:=tA;have bE:=Bh;have dP:=n6_;have jL:=n7_;have HB:=n8_;clear iR iT jQ lP tA Bh n6_ n7_ n8_;(try clear hb);(try clear iq);(try clear hk);(try clear hi);(try clear gu);have p23:0≤(eo:Int):=dt;have q23:(eo:Int)<((eG.length:Int):Int):=dt;obtain⟨xU,NV,EN,QT,aaz,amp,QU⟩:=Kd.uL ev.1 (by omega);(first|cases EN|(injection EN with U9 en_ ec_;(first|subst U9|(injection U9 with U9;subst U9));subst ec_;clear en_));have aaA:=ak QT;have QV:=ak QU;clear QT aaz QU;(first|simp only[add_plain] at oF|skip);obtain⟨ams,QW,QX,Ht,Hu⟩:=Kd.rY ev.1 [] (eo:Int) p23 q23;obtain⟨aaB,aaC,rfl,aaD,aaE⟩:=Kd.jX QX;have Kj:=Ht 0 _ rfl;have Kk:=Hu 0;(try simp only[show((Kd.slice 5 (Kd.int .u8))).sz=1 from rfl,Nat.mul_one,Nat.add_zero] at Kj);(try simp only[show((Kd.slice 5 (Kd.int .u8))).sz=1 from rfl,Nat.mul_one,Nat.add_zero] at Kk);clear QW Ht Hu QX;replace p23:=eq_true p23;replace q23:=eq_true q23;have EX:=ak (show Kd.N (Kd.slice 5 (Kd.int .u8)) 33 _ w.heap.size (fun k_=>(k_<w0.heap.size∨w.heap.size≤k_)∧some k_≠(.slice lJ t278.length lK:Value).ownBlock∧some k_≠(.slice tB t284.length tC:Value).ownBlock∧some k_≠((Value.slice QQ t288.length QR):Value).ownBlock∧k_≠dA∧k_≠iV) (.slice (some ⟨xU,0,none⟩) eG.length ER) eG from(Kd.kF (ev.1) (fun k_ hk=>⟨hk.1.1,⟨hk.1.2.1,⟨hk.1.2.2.1,⟨hk.2,⟨hk.1.2.2.2.1,hk.1.2.2.2.2⟩⟩⟩⟩⟩)));replace EX:=ak (show Kd.N (Kd.slice 5 (Kd.int .u8)) 33 _ w.heap.size (fun k_=>(k_<w0.heap.size∨w.heap.size≤k_)∧some k_≠(.slice lJ t278.length lK:Value).ownBlock∧some k_≠(.slice tB t284.length tC:Value).ownBlock∧k_≠dA∧k_≠iV) (.slice (some ⟨xU,0,none⟩) eG.length ER) eG from Kd.kF EX.1 (fun k_ hk=>⟨hk.1,⟨hk.2.1,⟨hk.2.2.1,⟨hk.2.2.2.2.1,hk.2.2.2.2.2⟩⟩⟩⟩));obtain⟨amt,Hv,QY,Hw,QZ⟩:=Kd.rY EX.1 [] (eo:Int) dt (by have h_:(eo:Int)<((eG.length:Int):Int):=dt;first|exact h_|(have e_:=(Kd.gX ev.1).1;omega)|simpa using h_);obtain⟨aaF,aaG,rfl,aaH,aaI⟩:=Kd.jX QY;have HOX:=ak (Kd.dc (Kd.dc (Kd.oT (Kd.oT (Kd.oT (QS.1) (Kd.gz j8.1) (by decide)) (Kd.gz j9.1) (by decide)) (Kd.Ln ev.1) (by decide)) bE.1 (by decide)) dP.1 (by decide));have HOY:=ak (show Kd.R (Kd.int .u8) 5 _ w.heap.size (fun k_=>((fun k_=>(k_<w0.heap.size∨w.heap.size≤k_)∧some k_≠(.slice lJ t278.length lK:Value).ownBlock∧some k_≠(.slice tB t284.length tC:Value).ownBlock∧k_≠dA∧k_≠iV)) k_∧k_≠xU) (Value.slice QQ t288.length QR) t288 from Kd.bJ HOX.1 (fun k_ hk=>⟨⟨.inr hk.1.1.1.1.1.1,hk.1.1.1.1.2,hk.1.1.1.2,hk.1.2,hk.2⟩,fun e_=>(hk.1.1.2) (by rw[e_];rfl)⟩));have EZ:=(Kd.Lp EX.1 (eo:Int) dt (by have h_:(eo:Int)<((eG.length:Int):Int):=dt;first|exact h_|(have e_:=(Kd.gX ev.1).1;omega)|simpa using h_) (oU:=[(Value.slice QQ t288.length QR)]) (j:=0) Hv Hw (show 1≤1 from by decide) (x':=t288) (afi HOY.1) (fun _ hk=>hk)).1;(try simp only[show((Kd.slice 5 (Kd.int .u8))).sz=1 from rfl,Nat.mul_one,Nat.add_zero] at EZ);rw[←Hr.1] at EZ;have aaJ:=ak EZ;clear Hv Hw QZ QY EZ;refine ft hK (fun hHeld=>?_) ⟨cL bE 0,cL bE 1,cL bE 2,amL⟩;clear hK K;refine dd (i:=9) (N:=some 31) (v:= ?_) (a':= ?_) #[true,true,true,true,true,true,true,true,true,true,false] rfl rfl (cv eU.1 (by kernel_rfl)) (fun _ _ _ h=>h) (Or.inl ⟨by rfl,?_⟩) ?_ ?_;rotate_left
    ·intro w'
     go_simp
     with_reducible rfl
    rotate_left
    ·simp only[Act.put,List.setIfInBounds_toArray,List.set_cons_zero,List.set_cons_succ,bp,bF];rfl
    refine qL (i:=10) (N:=none) #[true,true,true,true,true,true,true,true,true,true,true] rfl rfl (fR eU.1 (by kernel_rfl)) (by decide) (fun K hK=>?_);refine xC ?_;refine hK.out _ _ ?_;clear hK K;refine gF (mc eU.1 (by kernel_rfl)) ?_
    try go_wp2
    go_roundg k1
    case measure=>have:=iB.1;omega
    case rel=>exact⟨(wrap64 (eo+1)),aau,(.slice (some ⟨xU,0,none⟩) eG.length ER),rs,H,⟨by have:=iB.1;omega⟩,⟨by(with_reducible repeat (first|apply Kd.bQ|apply Kd.dh|apply Kd.cR));exact Kd.bJ (Kd.fu (p:=⟨xU,(eo:Int).toNat,none⟩) (Kd.dc j8.1 QV.1 (by decide)) (fun _ hk=>hk.2) ((Value.slice QQ t288.length QR))) (fun _ hk=>hk.1)⟩,⟨by(with_reducible repeat (first|apply Kd.mY|apply Kd.qA|apply Kd.lF));exact aaJ.1⟩,⟨by(with_reducible repeat (first|apply Kd.bQ|apply Kd.dh|apply Kd.cR));exact Kd.bJ (Kd.fu (p:=⟨xU,(eo:Int).toNat,none⟩) (Kd.dc j9.1 QV.1 (by decide)) (fun _ hk=>hk.2) ((Value.slice QQ t288.length QR))) (fun _ hk=>hk.1)⟩,⟨by(with_reducible repeat (first|refine cW ?_ _|refine aY ?_|refine ar ?_ _));refine aJ ?_ (by have h_:=Kd.Dw ev.1 (fun _ hk=>hk.1.2.2.2.1);intro e_;exact h_ (by rw[e_];rfl)) _;(with_reducible repeat (first|refine cW ?_ _|refine aY ?_|refine ar ?_ _));exact bE.1⟩,⟨by(with_reducible repeat (first|refine cW ?_ _|refine aY ?_|refine ar ?_ _));refine aJ ?_ (by have h_:=Kd.Dw ev.1 (fun _ hk=>hk.1.2.2.2.2);intro e_;exact h_ (by rw[e_];rfl)) _;(with_reducible repeat (first|refine cW ?_ _|refine aY ?_|refine ar ?_ _));exact dP.1⟩,⟨by repeat (first|(with_reducible first|exact HB.1|apply ab|apply cZ|apply eZ|refine aH ?_ aaA.1|refine aH ?_ Ho.1|refine aH ?_ Hp.1)|exact HB.1)⟩⟩
   ·obtain⟨rfl,rfl,rfl⟩:=s3 H;have PQ:=jl.1;have PR:=jm.1;obtain⟨zA,zB⟩:=cf bE;obtain⟨vW,vX⟩:=cf dP;obtain⟨Kl,Km,Q0⟩:=Kd.mZ ev.1;subst Q0;go_wp2;refine bodyPost_ret (results_cell_row rfl _ _ iV 118 #[.slice lJ t278.length lK,.slice Kl eG.length Km,.slice tB t284.length tC] (0,0) _ rfl pk Tryz.underlying118 rfl (by kernel_rfl)) rfl ?_;exact⟨_,_,_,re,rt j8 dP,by(with_reducible repeat (first|apply Kd.mY|apply Kd.qA|apply Kd.lF));exact Kd.kF (Kd.lO (p:=⟨iV,2,none⟩) (Kd.lO (p:=⟨iV,1,none⟩) (Kd.lO (p:=⟨iV,0,none⟩) (Kd.kF ev.1 (fun k_ hk=>(⟨hk,hk.2.2.2.2⟩:_∧k_≠iV))) (fun _ hk=>hk.2) (.slice lJ t278.length lK)) (fun _ hk=>hk.2) (.slice Kl eG.length Km)) (fun _ hk=>hk.2) (.slice tB t284.length tC)) (fun _ hk=>⟨hk.1.1,⟨hk.1.2.1,hk.1.2.2.1⟩⟩),rt j9 dP,bl⟩
def iY.f(fp:List Int)(fP:List (List Int))(iW:List dJ)(dO gH:Int):Option Bool:=if dO≥0 then(if dO<(fp.length:Int) then(if 0≤dO then(if dO<(fP.length:Int) then(if((dn fP dO).length:Int)>0 then some ((rd fp dO)==gH) else some false) else none) else none) else some false) else some false
theorem iY.calls(rE:Option Addr)(rF:Nat)(fp:List Int)(qG:Option Addr)(qH:Nat)(fP:List (List Int))(pw:Option Addr)(pz:Nat)(iW:List dJ)(dO gH:Int)(r:Bool)(w:World)(yD:Kd.C (Kd.int .i64) w rE fp.length fp)(yE:fp.length≤rF)(yF:Kd.C (Kd.slice 5 (Kd.int .u8)) w qG fP.length fP)(yG:fP.length≤qH)(yH:Kd.C gQ w pw iW.length iW)(yI:iW.length≤pz)(h:iY.f fp fP iW dO gH=some r):
 Calls Tryz.prog 139 #[.agg #[.slice rE fp.length rF,.slice qG fP.length qH,.slice pw iW.length pz],.agg #[.int .i64 dO,.int .i64 gH]] w fun e w'=>e= .returned (.bool r)∧Below w.heap.size w w':=by
 have XN:=Tryz.underlying118;have JT:=Tryz.underlying32;have yJ:=ak yD;have Q8:=ak yE;clear yD yE;have Bl:=ak yF;have Q9:=ak yG;clear yF yG;have Mw:=ak yH;have Mx:=ak yI;clear yH yI;have HB:=ak (Below.refl w.heap.size w);have H:=ak h;clear h;unfold iY.f at H;replace H:=ic H;rcases H with⟨kU,H⟩|⟨kU,H⟩
 ·replace H:=ic H;rcases H with⟨jP,H⟩|⟨jP,H⟩
  ·replace H:=iO H;obtain⟨iG,H⟩:=H;replace H:=iO H;obtain⟨lu,H⟩:=H;replace H:=iC H;rcases H with⟨c7,H⟩|⟨c7,H⟩
   ·have vO:=decide_eq_true c7;have aaW:decide (0<(dn fP dO).length)=true:=decide_eq_true (by omega);clear c7;obtain rfl:=s1 H;go_enter Tryz.func139,Tryz.ntmps139
    go_wp2_with(first|((with_reducible refine gd 2 ?_);(try (refine dy (by rfl) ?_;dsimp only));refine bx 118 #[.slice rE fp.length rF,.slice qG fP.length qH,.slice pw iW.length pz] ?_;intro Rd hg w8 eh hb;have mF:=ak (eh);have Re:=qg hg;replace HB:=qb hb;clear hb eh hg)|((with_reducible refine gd 3 ?_);(try (refine dy (by rfl) ?_;dsimp only));refine bx 32 #[.int .i64 dO,.int .i64 gH] ?_;intro Rf hg w9 eh hb;have Bm:=ak (eh);have Rg:=qg hg;replace HB:=qb hb;obtain⟨mT,mU⟩:=nn mF hg;replace mF:=qk mF hb;clear hb eh hg;have afH:=mU.1;have afI:=mT.1;obtain⟨km,ko⟩:=cf Bm;obtain⟨zC,zD⟩:=cf mF;have Kt:0≤(dO:Int):=dt;have Ku:dO<(fP.length:Int):=dt;obtain⟨afJ,aaX,aaY,aaZ,wO,wP,wQ⟩:=oY Bl.1 dO Kt Ku;cases aaZ;replace wO:=hy wO;have Vg:=ak wQ;have Vh:=ak wP;clear wQ wP;replace Kt:=eq_true Kt;replace Ku:=eq_true Ku;have aa0:0≤(dO:Int):=dt;have aa1:dO<(fp.length:Int):=dt;obtain⟨aq3,amP,My⟩:=Kd.nV yJ.1 dO aa0 aa1;cases amP;replace My:=hy My;replace aa0:=eq_true aa0;replace aa1:=eq_true aa1))
    repeat (go_quiet (first|fail);try go_wp2_with fail)
    go_ret;exact⟨re,bl⟩
   ·have vO:=decide_eq_false c7;have aaW:decide (0<(dn fP dO).length)=false:=decide_eq_false (by omega);clear c7;obtain rfl:=s1 H;go_enter Tryz.func139,Tryz.ntmps139
    go_wp2_with(first|((with_reducible refine gd 2 ?_);(try (refine dy (by rfl) ?_;dsimp only));refine bx 118 #[.slice rE fp.length rF,.slice qG fP.length qH,.slice pw iW.length pz] ?_;intro Rd hg WW eh hb;have mF:=ak (eh);have Re:=qg hg;replace HB:=qb hb;clear hb eh hg)|((with_reducible refine gd 3 ?_);(try (refine dy (by rfl) ?_;dsimp only));refine bx 32 #[.int .i64 dO,.int .i64 gH] ?_;intro Rf hg ZF eh hb;have Bm:=ak (eh);have Rg:=qg hg;replace HB:=qb hb;obtain⟨mT,mU⟩:=nn mF hg;replace mF:=qk mF hb;clear hb eh hg;have Qr:=mU.1;have Qs:=mT.1;obtain⟨ot,ou⟩:=cf Bm;obtain⟨vP,vQ⟩:=cf mF;have Kt:0≤(dO:Int):=dt;have Ku:dO<(fP.length:Int):=dt;obtain⟨afJ,aaX,aaY,aaZ,wO,wP,wQ⟩:=oY Bl.1 dO Kt Ku;cases aaZ;replace wO:=hy wO;have Vg:=ak wQ;have Vh:=ak wP;clear wQ wP;replace Kt:=eq_true Kt;replace Ku:=eq_true Ku))
    repeat (go_quiet (first|fail);try go_wp2_with fail)
    go_ret;exact⟨re,bl⟩
  ·obtain rfl:=s1 H;go_enter Tryz.func139,Tryz.ntmps139
   go_wp2_with(first|((with_reducible refine gd 2 ?_);(try (refine dy (by rfl) ?_;dsimp only));refine bx 118 #[.slice rE fp.length rF,.slice qG fP.length qH,.slice pw iW.length pz] ?_;intro Rd hg w18 eh hb;have mF:=ak (eh);have Re:=qg hg;replace HB:=qb hb;clear hb eh hg)|((with_reducible refine gd 3 ?_);(try (refine dy (by rfl) ?_;dsimp only));refine bx 32 #[.int .i64 dO,.int .i64 gH] ?_;intro Rf hg Nz eh hb;have Bm:=ak (eh);have Rg:=qg hg;replace HB:=qb hb;obtain⟨mT,mU⟩:=nn mF hg;replace mF:=qk mF hb;clear hb eh hg;have aq4:=mU.1;have aq5:=mT.1;obtain⟨vS,vT⟩:=cf Bm;obtain⟨tV,tW⟩:=cf mF))
   repeat (go_quiet (first|fail);try go_wp2_with fail)
   go_ret;exact⟨re,bl⟩
 ·obtain rfl:=s1 H;go_enter Tryz.func139,Tryz.ntmps139
  go_wp2_with(first|((with_reducible refine gd 2 ?_);(try (refine dy (by rfl) ?_;dsimp only));refine bx 118 #[.slice rE fp.length rF,.slice qG fP.length qH,.slice pw iW.length pz] ?_;intro Rd hg w23 eh hb;have mF:=ak (eh);have Re:=qg hg;replace HB:=qb hb;clear hb eh hg)|((with_reducible refine gd 3 ?_);(try (refine dy (by rfl) ?_;dsimp only));refine bx 32 #[.int .i64 dO,.int .i64 gH] ?_;intro Rf hg ZX eh hb;have Bm:=ak (eh);have Rg:=qg hg;replace HB:=qb hb;obtain⟨mT,mU⟩:=nn mF hg;replace mF:=qk mF hb;clear hb eh hg;have afK:=mU.1;have afL:=mT.1;obtain⟨zy,zz⟩:=cf Bm))
  repeat (go_quiet (first|fail);try go_wp2_with fail)
  go_ret;exact⟨re,bl⟩
end Go.Proofs.YtmhdcgmfbjcndaaGreatDoor.P
