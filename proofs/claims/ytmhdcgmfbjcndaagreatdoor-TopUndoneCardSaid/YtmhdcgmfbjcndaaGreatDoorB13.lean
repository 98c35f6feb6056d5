import Derived.Test.YtmhdcgmfbjcndaaGreatDoorB07
import Derived.Test.YtmhdcgmfbjcndaaGreatDoorB08
set_option linter.unusedVariables false
set_option linter.unusedSimpArgs false
set_option maxRecDepth 100000
set_option maxHeartbeats 8000000
namespace Go.Proofs.YtmhdcgmfbjcndaaGreatDoor.P
open Go.RowKit Go.Proofs.aa.ag Go.Proofs.aa.ao Go.Proofs.aa.ay
attribute [local go_sem] bD bw cj bV bj bk bG bH
theorem afi{α:Type}{d:Kd α}{e base:Nat}{ok:Nat→Prop}{W:World}{v:Value}{xs:List α}(h:d.R e W base ok v xs):Kd.FK (Kd.slice e d) W ok xs [v]:=by
 obtain⟨A,c,rfl⟩:=Kd.bm h;exact Kd.sY (Kd.aW h).2.1 (Kd.TF h)
def bS.l0:Nat→Int→Int→Int→Int→Int→Int→Int→Int→List cU→List dJ→List (List Int)→Option (Int×Int×Int×Int×Int×Int×(List cU)×(List dJ)×(List (List Int)))
 |0,_,_,_,_,_,_,_,_,_,_,_=>none
 |k+1,x18,GU,wF,sq,wG,Ml,Mm,Mn,Mo,Mp,zN=>if GU<x18 then(if 0≤GU then(if GU<(zN.length:Int) then((dv.f (dn zN GU)).bind fun t288=>(bS.l0 k x18 (wrap64 (GU+1)) wF sq wG Ml Mm Mn Mo Mp (zN.set (GU:Int).toNat t288))) else none) else none) else some (wF,sq,wG,Ml,Mm,Mn,Mo,Mp,zN)
def bS.f(k:Nat)(az ax aA aC aV aX:Int)(aw:List cU)(aD:List dJ)(aG:List (List Int)):Option (Int×Int×Int×Int×Int×Int×(List cU)×(List dJ)×(List (List Int))):=(rA.f aw).bind fun t278=>((jh.f aD).bind fun t281=>((dr.f aG).bind fun t284=>(bS.l0 k (t284.length:Int) 0 az ax aA aC aV aX t278 t281 t284)))
def bS.T1:Bool×List (List Nat×List Nat):=(true,[([],[]),([0],[0]),([1],[1]),([],[]),([3],[3]),([4,2],[4]),([],[]),([6],[6]),([7,5],[7]),([0,1,2,3,4,6,7],[]),([9,2,8,0,1,2,3,4,6,7],[2,9]),([0,1,2,3,4,5,6,7,9,10],[]),([11,5,10,0,1,2,3,4,5,6,7,9,10],[5,11]),([0,1,2,3,4,5,6,7,8,9,10,11,12],[]),([13,8,12,0,1,2,3,4,5,6,7,8,9,10,11,12],[8,13])])
def bS.B1:List Nat:=[0,1,3,0,8,31,0,64,255,223,1023,2047,4095,8191,16383]
theorem bS.aar:mb .any (opsOf Tryz.f93 1)=bS.T1:=by kernel_rfl
theorem bS.QK:kR bS.T1.2 bS.B1=true:=by kernel_rfl
def bS.T5:Bool×List (List Nat×List Nat):=(true,[([],[]),([0],[0]),([],[]),([],[]),([3],[3]),([],[]),([4,5],[4,5]),([6],[6]),([7],[7]),([1,2,0,1,2,3,4,5,6,7,8],[1,2]),([9,8,8,0,1,2,3,4,5,6,7,8],[8,9])])
def bS.B5:List Nat:=[0,1,0,0,8,0,56,120,248,511,1023]
theorem bS.aas:mb .any (opsOf Tryz.f93 5)=bS.T5:=by kernel_rfl
theorem bS.QL:kR bS.T5.2 bS.B5=true:=by kernel_rfl
theorem bS.calls(k:Nat)(az ax aA aC aV aX:Int)(cN:Option Addr)(cF:Nat)(aw:List cU)(cy:Option Addr)(cA:Nat)(aD:List dJ)(cC:Option Addr)(cB:Nat)(aG:List (List Int))(r1 r2 r3 r4 r5 r6:Int)(r7:List cU)(r8:List dJ)(r9:List (List Int))(w0 w:World)(ju:Below w0.heap.size w0 w)(dZ:Kd.C gW w cN aw.length aw)(ef:aw.length≤cF)(eb:Kd.C gQ w cy aD.length aD)(en:aD.length≤cA)(dL:Kd.C (Kd.slice 5 (Kd.int .u8)) w0 cC aG.length aG)(ew:aG.length≤cB)(h:bS.f k az ax aA aC aV aX aw aD aG=some (r1,r2,r3,r4,r5,r6,r7,r8,r9)):
 Calls Tryz.prog 93 #[.agg #[.int .i64 az,.int .i64 ax,.int .i64 aA,.int .i64 aC,.int .i64 aV,.int .i64 aX,.slice cN aw.length cF,.slice cy aD.length cA,.slice cC aG.length cB]] w fun e w'=>∃v6_ v7_ v8_:Value,e= .returned (.agg #[.int .i64 r1,.int .i64 r2,.int .i64 r3,.int .i64 r4,.int .i64 r5,.int .i64 r6,v6_,v7_,v8_])∧Kd.R gW 43 w' w.heap.size (fun k_=>(w.heap.size≤k_)) v6_ r7∧Kd.R gQ 58 w' w.heap.size (fun k_=>(w.heap.size≤k_)) v7_ r8∧Kd.N (Kd.slice 5 (Kd.int .u8)) 33 w' w.heap.size (fun k_=>(k_<w0.heap.size∨w.heap.size≤k_)∧some k_≠(v6_:Value).ownBlock∧some k_≠(v7_:Value).ownBlock) v8_ r9∧Below w.heap.size w w':=by
 have Ba:=Tryz.underlying28;have fD:=ak dZ;have i':=ak ef;clear dZ ef;have iw:=ak eb;have ji:=ak en;clear eb en;have tz:=ak ju;clear ju;have ix:=ak dL;have jS:=ak ew;clear dL ew;have HB:=ak (Below.refl w.heap.size w);have H:=ak h;clear h;unfold bS.f at H;replace H:=bI H;obtain⟨t278,A2,H⟩:=H;(try dsimp only at H);replace H:=bI H;obtain⟨t281,A3,H⟩:=H;(try dsimp only at H);replace H:=bI H;obtain⟨t284,A4,H⟩:=H;(try dsimp only at H);go_enter Tryz.func93,Tryz.ntmps93
 try go_wp2_with(first|((with_reducible refine gd 1 ?_);refine bY 28 #[.int .i64 az,.int .i64 ax,.int .i64 aA,.int .i64 aC,.int .i64 aV,.int .i64 aX,.slice cN aw.length cF,.slice cy aD.length cA,.slice cC aG.length cB] fun dA w5 bE Ho HB=>?_)|((with_reducible refine gd 2 ?_);refine bX 28 #[.int .i64 0,.int .i64 0,.int .i64 0,.int .i64 0,.int .i64 0,.int .i64 0,.slice none 0 0,.slice none 0 0,.slice none 0 0] fun iV w6 dP Hp HB hg hb=>?_;obtain⟨jl,jm⟩:=nn bE hg;replace bE:=qk bE hb;clear hb hg))
 have iR:=ak (aY bE.1);have iT:=ak (aY dP.1);have jQ:=ak (eZ HB.1);clear bE;clear dP;clear HB;have bE:=iR;have dP:=iT;have HB:=jQ;clear iR iT jQ;refine eW (n:=15) (S:=fun w'=>w'.cell? ⟨dA,0,none⟩=some (.int .i64 az)∧w'.cell? ⟨dA,1,none⟩=some (.int .i64 ax)∧w'.cell? ⟨dA,2,none⟩=some (.int .i64 aA)∧w'.cell? ⟨dA,3,none⟩=some (.int .i64 aC)∧w'.cell? ⟨dA,4,none⟩=some (.int .i64 aV)∧w'.cell? ⟨dA,5,none⟩=some (.int .i64 aX)∧w'.cell? ⟨dA,6,none⟩=some (.slice cN aw.length cF)∧w'.cell? ⟨dA,7,none⟩=some (.slice cy aD.length cA)∧w'.cell? ⟨dA,8,none⟩=some (.slice cC aG.length cB)) (ds:=[10,12,14]) #[false,false,false,false,false,false,false,false,false,false,false,false,false,false,false] (by kernel_rfl) rfl rfl ⟨cL bE 0,cL bE 1,cL bE 2,cL bE 3,cL bE 4,cL bE 5,cL bE 6,cL bE 7,cL bE 8⟩ (fun hHeld=>?_);refine je bS.aar bS.QK (fun eU u9=>?_);generalize w6.drew=w7 at bE dP HB hHeld⊢;refine dd (i:=0) (N:=some 4) (v:= ?_) (a':= ?_) #[true,false,false,false,false,false,false,false,false,false,false,false,false,false,false] rfl rfl (cv eU.1 (by kernel_rfl)) (fun _ _ _ h=>h) (Or.inl ⟨by rfl,?_⟩) ?_ ?_;rotate_left
 ·intro w'
  go_simp
  with_reducible rfl
 rotate_left
 ·simp only[Act.put,List.setIfInBounds_toArray,List.set_cons_zero,List.set_cons_succ,bp,bF];rfl
 refine dd (i:=3) (N:=some 7) (v:= ?_) (a':= ?_) #[true,false,false,true,false,false,false,false,false,false,false,false,false,false,false] rfl rfl (cv eU.1 (by kernel_rfl)) (fun _ _ _ h=>h) (Or.inl ⟨by rfl,?_⟩) ?_ ?_;rotate_left
 ·intro w'
  go_simp
  with_reducible rfl
 rotate_left
 ·simp only[Act.put,List.setIfInBounds_toArray,List.set_cons_zero,List.set_cons_succ,bp,bF];rfl
 refine dd (i:=6) (N:=some 10) (v:= ?_) (a':= ?_) #[true,false,false,true,false,false,true,false,false,false,false,false,false,false,false] rfl rfl (cv eU.1 (by kernel_rfl)) (fun _ _ _ h=>h) (Or.inl ⟨by rfl,?_⟩) ?_ ?_;rotate_left
 ·intro w'
  go_simp
  with_reducible rfl
 rotate_left
 ·simp only[Act.put,List.setIfInBounds_toArray,List.set_cons_zero,List.set_cons_succ,bp,bF];rfl
 refine ke (i:=1) (N:=some 5) (v:= ?_) (a':= ?_) #[true,true,false,true,false,false,true,false,false,false,false,false,false,false,false] rfl rfl (fx eU.1 u9.1 (by kernel_rfl)) (fun _ _ _ h=>h) (Or.inl ⟨by rfl,?_⟩) hHeld ?_ ?_;rotate_left
 ·rintro w' ⟨s0,s1,s2,s3,s4,s5,s6,s7,s8⟩
  go_simp
  with_reducible rfl
 rotate_left
 ·simp only[Act.put,List.setIfInBounds_toArray,List.set_cons_zero,List.set_cons_succ,bp,bF];rfl
 refine ke (i:=4) (N:=some 8) (v:= ?_) (a':= ?_) #[true,true,false,true,true,false,true,false,false,false,false,false,false,false,false] rfl rfl (fx eU.1 u9.1 (by kernel_rfl)) (fun _ _ _ h=>h) (Or.inl ⟨by rfl,?_⟩) hHeld ?_ ?_;rotate_left
 ·rintro w' ⟨s0,s1,s2,s3,s4,s5,s6,s7,s8⟩
  go_simp
  with_reducible rfl
 rotate_left
 ·simp only[Act.put,List.setIfInBounds_toArray,List.set_cons_zero,List.set_cons_succ,bp,bF];rfl
 refine ke (i:=7) (N:=some 11) (v:= ?_) (a':= ?_) #[true,true,false,true,true,false,true,true,false,false,false,false,false,false,false] rfl rfl (fx eU.1 u9.1 (by kernel_rfl)) (fun _ _ _ h=>h) (Or.inl ⟨by rfl,?_⟩) hHeld ?_ ?_;rotate_left
 ·rintro w' ⟨s0,s1,s2,s3,s4,s5,s6,s7,s8⟩
  go_simp
  with_reducible rfl
 rotate_left
 ·simp only[Act.put,List.setIfInBounds_toArray,List.set_cons_zero,List.set_cons_succ,bp,bF];rfl
 refine qB (i:=2) (N:=some 6) #[true,true,true,true,true,false,true,true,false,false,false,false,false,false,false] rfl rfl (fR eU.1 (by kernel_rfl)) (by decide) (fun K hK=>?_);refine pN Tryz.func144 #[.slice cN aw.length cF] ?_
 with_reducible refine(rA.calls _ _ aw t278 _ ?di ?gJ A2.1).mono ?_
 (case di=>repeat (first|exact(Kd.aj fD.1 HB.1)|(with_reducible refine Kd.cD ?_ _)|(with_reducible refine Kd.cE ?_ _)|(with_reducible refine Kd.cY ?_)));(case gJ=>exact i'.1);rintro e w8 ⟨aat,rfl,gu,hb⟩;refine⟨_,rfl,?_⟩;have iR:=ak (Kd.bO (Kd.rZ (M:=fun k_=>(w.heap.size≤k_)) gu (aq bl) (fun k_ h_=>h_)) (aq bl));have iT:=qk bE hb;have jQ:=qk dP hb;have lP:=qb hb;clear bE;clear dP;clear HB;have lC:=iR;have bE:=iT;have dP:=jQ;have HB:=lP;clear iR iT jQ lP;(try clear hb);(try clear iq);(try clear hk);(try clear hi);(try clear gu);refine ft hK (fun hHeld=>?_);clear hK K;refine dd (i:=9) (N:=some 13) (v:= ?_) (a':= ?_) #[true,true,true,true,true,false,true,true,false,true,false,false,false,false,false] rfl rfl (cv eU.1 (by kernel_rfl)) (fun _ _ _ h=>h) (Or.inl ⟨by rfl,?_⟩) ?_ ?_;rotate_left
 ·intro w'
  go_simp
  with_reducible rfl
 rotate_left
 ·simp only[Act.put,List.setIfInBounds_toArray,List.set_cons_zero,List.set_cons_succ,bp,bF];rfl
 refine qB (i:=5) (N:=some 9) #[true,true,true,true,true,true,true,true,false,true,false,false,false,false,false] rfl rfl (fR eU.1 (by kernel_rfl)) (by decide) (fun K hK=>?_);refine pN Tryz.func91 #[.slice cy aD.length cA] ?_
 with_reducible refine(jh.calls _ _ aD t281 _ ?di ?gJ A3.1).mono ?_
 (case di=>repeat (first|exact(Kd.aj iw.1 HB.1)|(with_reducible refine Kd.cD ?_ _)|(with_reducible refine Kd.cE ?_ _)|(with_reducible refine Kd.cY ?_)));(case gJ=>exact ji.1);rintro e w9 ⟨afl,rfl,gu,hb⟩;refine⟨_,rfl,?_⟩;have iR:=qr lC hb;have iT:=ak (Kd.bO (Kd.rZ (M:=fun k_=>(w.heap.size≤k_)) gu (aq bl) (fun k_ h_=>h_)) (aq bl));have jQ:=qk bE hb;have lP:=qk dP hb;have tA:=qb hb;clear lC;clear bE;clear dP;clear HB;have lC:=iR;have rB:=iT;have bE:=jQ;have dP:=lP;have HB:=tA;clear iR iT jQ lP tA;(try clear hb);(try clear iq);(try clear hk);(try clear hi);(try clear gu);refine ft hK (fun hHeld=>?_);clear hK K;refine qB (i:=8) (N:=some 12) #[true,true,true,true,true,true,true,true,true,true,false,false,false,false,false] rfl rfl (fR eU.1 (by kernel_rfl)) (by decide) (fun K hK=>?_);refine pN Tryz.func134 #[.slice cC aG.length cB] ?_
 with_reducible refine(dr.calls w0 _ _ aG t284 _ ix.1 ?di ?gJ A4.1).mono ?_
 (case di=>exact tz.1.trans ((bl:Below w.heap.size w _).mono tz.1.size));(case gJ=>exact jS.1);rintro e rN ⟨ami,rfl,gu,hb⟩;refine⟨_,rfl,?_⟩;have iR:=qr lC hb;have iT:=qr rB hb
 have jQ:=ak (Kd.Lo (Kd.kF (ok':=fun k_=>(k_<w0.heap.size∨w.heap.size≤k_)∧some k_≠(aat:Value).ownBlock∧some k_≠(afl:Value).ownBlock∧k_≠dA∧k_≠iV) gu (fun k_ xn=>by
  have q1:=Kd.iE lC.1;have q2:=Kd.iE rB.1;have q3:=Kd.pM lC.1;have q4:=Kd.pM rB.1;have q5:=Ho.1;have q6:=Hp.1;have q7:=aN bE.1;have q8:=aN dP.1;have q9:=tz.1.size;have q10:=HB.1.size;refine⟨by rcases xn with xn|xn<;>first|(left;omega)|(right;omega),fun e=>?_,fun e=>?_,fun e=>?_,fun e=>?_⟩
  ·have:=q1 k_ e.symm;have:=q3 k_ e.symm;rcases xn with xn|xn<;>omega
  ·have:=q2 k_ e.symm;have:=q4 k_ e.symm;rcases xn with xn|xn<;>omega
  ·rcases xn with xn|xn<;>omega
  ·rcases xn with xn|xn<;>omega)) (aq HB.1))
 have lP:=qk bE hb;have tA:=qk dP hb;have Bh:=qb hb;clear lC;clear rB;clear bE;clear dP;clear HB;have lC:=iR;have rB:=iT;have Hq:=jQ;have bE:=lP;have dP:=tA;have HB:=Bh;clear iR iT jQ lP tA Bh;(try clear hb);(try clear iq);(try clear hk);(try clear hi);(try clear gu);obtain⟨lJ,lK,Ke⟩:=Kd.bm lC.1;(first|subst Ke|(injection Ke with uG Co uH;have Cp:=uG.symm;have Cq:=uH.symm;clear uG Co uH;subst Cp;subst Cq));obtain⟨rC,rD,Kg⟩:=Kd.bm rB.1;(first|subst Kg|(injection Kg with uG Co uH;have Cp:=uG.symm;have Cq:=uH.symm;clear uG Co uH;subst Cp;subst Cq));obtain⟨tB,tC,QM⟩:=Kd.mZ Hq.1;(first|subst QM|(injection QM with uG Co uH;have Cp:=uG.symm;have Cq:=uH.symm;clear uG Co uH;subst Cp;subst Cq));refine ft hK (fun hHeld=>?_);clear hK K;refine qL (i:=10) (N:=none) #[true,true,true,true,true,true,true,true,true,true,true,false,false,false,false] rfl rfl (fR eU.1 (by kernel_rfl)) (by decide) (fun K hK=>?_);have amj:rN.cell? ⟨dA,6,none⟩=some (.slice cN aw.length cF):=cL bE 6;have afn:=fZ bE;have U1:=jm.1;have U2:=jl.1;refine xC ?_;refine hK.out _ _ ?_;clear hK K;refine dd (i:=11) (N:=some 14) (v:= ?_) (a':= ?_) #[true,true,true,true,true,true,true,true,true,true,true,true,false,false,false] rfl rfl (cv eU.1 (by kernel_rfl)) (fun _ _ _ h=>h) (Or.inl ⟨by rfl,?_⟩) ?_ ?_;rotate_left
 ·intro w'
  go_simp
  with_reducible rfl
 rotate_left
 ·simp only[Act.put,List.setIfInBounds_toArray,List.set_cons_zero,List.set_cons_succ,bp,bF];rfl
 refine qL (i:=12) (N:=none) #[true,true,true,true,true,true,true,true,true,true,true,true,true,false,false] rfl rfl (fR eU.1 (by kernel_rfl)) (by decide) (fun K hK=>?_);have amk:rN.cell? ⟨dA,7,none⟩=some (.slice cy aD.length cA):=cL bE 7;have afo:=fZ bE;have U3:=jm.1;have U4:=jl.1;refine xC ?_;refine hK.out _ _ ?_;clear hK K;refine dd (i:=13) (N:=some 15) (v:= ?_) (a':= ?_) #[true,true,true,true,true,true,true,true,true,true,true,true,true,true,false] rfl rfl (cv eU.1 (by kernel_rfl)) (fun _ _ _ h=>h) (Or.inl ⟨by rfl,?_⟩) ?_ ?_;rotate_left
 ·intro w'
  go_simp
  with_reducible rfl
 rotate_left
 ·simp only[Act.put,List.setIfInBounds_toArray,List.set_cons_zero,List.set_cons_succ,bp,bF];rfl
 refine qL (i:=14) (N:=none) #[true,true,true,true,true,true,true,true,true,true,true,true,true,true,true] rfl rfl (fR eU.1 (by kernel_rfl)) (by decide) (fun K hK=>?_);have aml:rN.cell? ⟨dA,8,none⟩=some (.slice cC aG.length cB):=cL bE 8;have afp:=fZ bE;have U5:=jm.1;have U6:=jl.1;refine xC ?_;refine hK.out _ _ ?_;clear hK K;refine gF (mc eU.1 (by kernel_rfl)) ?_;have PI:=jl.1;have PJ:=jm.1;obtain⟨pZ,p7⟩:=cf bE
 try go_wp2
 go_loopg [19] k (fun kq ZY w'=>∃(eo:Int)(eF:List (List Int))(EP:Value),ZY= .int .i64 eo∧ae (bS.l0 kq (t284.length:Int) eo az ax aA aC aV aX t278 t281 eF=some (r1,r2,r3,r4,r5,r6,r7,r8,r9))∧ae (kq≤k)∧ae (Kd.R gW 43 w' w.heap.size (fun k_=>(w.heap.size≤k_)) (.slice lJ t278.length lK) t278)∧ae (Kd.R gQ 58 w' w.heap.size (fun k_=>(w.heap.size≤k_)) (.slice rC t281.length rD) t281)∧ae (Kd.N (Kd.slice 5 (Kd.int .u8)) 33 w' w.heap.size (fun k_=>(k_<w0.heap.size∨w.heap.size≤k_)∧some k_≠((.slice lJ t278.length lK):Value).ownBlock∧some k_≠((.slice rC t281.length rD):Value).ownBlock∧k_≠dA∧k_≠iV) EP eF)∧ae (w'.heap[dA]? =some (.cells #[.int .i64 az,.int .i64 ax,.int .i64 aA,.int .i64 aC,.int .i64 aV,.int .i64 aX,(.slice lJ t278.length lK),(.slice rC t281.length rD),EP] 28 (0,0)))∧ae (w'.heap[iV]? =some (.cells #[.int .i64 0,.int .i64 0,.int .i64 0,.int .i64 0,.int .i64 0,.int .i64 0,(.slice none 0 0),(.slice none 0 0),(.slice none 0 0)] 28 (0,0)))∧ae (Below w.heap.size w w'))
 case atStart=>exact⟨0,t284,(.slice tB t284.length tC),rs,H,⟨Nat.le_refl _⟩,⟨by(with_reducible repeat (first|apply Kd.bQ|apply Kd.dh|apply Kd.cR));exact Kd.bJ (Kd.fu (p:=⟨dA,8,none⟩) (Kd.fu (p:=⟨dA,7,none⟩) (Kd.fu (p:=⟨dA,6,none⟩) (Kd.dc lC.1 bE.1 (by decide)) (fun _ hk=>hk.2) (.slice lJ t278.length lK)) (fun _ hk=>hk.2) (.slice rC t281.length rD)) (fun _ hk=>hk.2) (.slice tB t284.length tC)) (fun _ hk=>hk.1.1)⟩,⟨by(with_reducible repeat (first|apply Kd.bQ|apply Kd.dh|apply Kd.cR));exact Kd.bJ (Kd.fu (p:=⟨dA,8,none⟩) (Kd.fu (p:=⟨dA,7,none⟩) (Kd.fu (p:=⟨dA,6,none⟩) (Kd.dc rB.1 bE.1 (by decide)) (fun _ hk=>hk.2) (.slice lJ t278.length lK)) (fun _ hk=>hk.2) (.slice rC t281.length rD)) (fun _ hk=>hk.2) (.slice tB t284.length tC)) (fun _ hk=>hk.1.1)⟩,⟨by(with_reducible repeat (first|apply Kd.mY|apply Kd.qA|apply Kd.lF));exact Kd.kF (Kd.lO (p:=⟨dA,8,none⟩) (Kd.lO (p:=⟨dA,7,none⟩) (Kd.lO (p:=⟨dA,6,none⟩) (Kd.kF Hq.1 (fun k_ hk=>(⟨hk,hk.2.2.2.1⟩:_∧k_≠dA))) (fun _ hk=>hk.2) (.slice lJ t278.length lK)) (fun _ hk=>hk.2) (.slice rC t281.length rD)) (fun _ hk=>hk.2) (.slice tB t284.length tC)) (fun _ hk=>⟨hk.1.1,⟨hk.1.2.1,⟨hk.1.2.2.1,⟨hk.1.2.2.2.1,hk.1.2.2.2.2⟩⟩⟩⟩)⟩,⟨by(with_reducible repeat (first|refine cW ?_ _|refine aY ?_|refine ar ?_ _));refine aQ (cs:= #[.int .i64 az,.int .i64 ax,.int .i64 aA,.int .i64 aC,.int .i64 aV,.int .i64 aX,.slice lJ t278.length lK,.slice rC t281.length rD,.slice cC aG.length cB]) ?_ 8 _ rfl;(with_reducible repeat (first|refine cW ?_ _|refine aY ?_|refine ar ?_ _));refine aQ (cs:= #[.int .i64 az,.int .i64 ax,.int .i64 aA,.int .i64 aC,.int .i64 aV,.int .i64 aX,.slice lJ t278.length lK,.slice cy aD.length cA,.slice cC aG.length cB]) ?_ 7 _ rfl;(with_reducible repeat (first|refine cW ?_ _|refine aY ?_|refine ar ?_ _));refine aQ (cs:= #[.int .i64 az,.int .i64 ax,.int .i64 aA,.int .i64 aC,.int .i64 aV,.int .i64 aX,.slice cN aw.length cF,.slice cy aD.length cA,.slice cC aG.length cB]) ?_ 6 _ rfl;(with_reducible repeat (first|refine cW ?_ _|refine aY ?_|refine ar ?_ _));exact bE.1⟩,⟨bu dP⟩,⟨bl⟩⟩
 case round=>
  clear H;obtain⟨eo,eF,EP,rfl,H,iB,j6,j7,eu,bE,dP,HB⟩:=hrel;cases gk with
  |zero=>exact absurd H.1 (by simp [bS.l0])
  |succ k1=>
   simp only[bS.l0] at H;replace H:=ic H;rcases H with⟨tr,H⟩|⟨tr,H⟩
   ·replace H:=iO H;obtain⟨rv,H⟩:=H;replace H:=iO H;obtain⟨Xq,H⟩:=H;replace H:=bI H;obtain⟨t288,A22,H⟩:=H;(try dsimp only at H);obtain⟨aau,Hr⟩:=nm (eF.set (eo:Int).toNat t288);rw[←Hr.1] at H
    try go_wp2
    have iR:=ak (Kd.cR j6.1);have iT:=ak (Kd.cR j7.1);have jQ:=ak (Kd.lF eu.1);have lP:=ak (aY bE.1);have tA:=ak (aY dP.1);have Bh:=ak (eZ HB.1);clear j6;clear j7;clear eu;clear bE;clear dP;clear HB;have j6:=iR;have j7:=iT;have eu:=jQ;have bE:=lP;have dP:=tA;have HB:=Bh;clear iR iT jQ lP tA Bh;obtain⟨amm,ER,QN⟩:=Kd.mZ eu.1;(first|subst QN|(injection QN with uG Co uH;have Cp:=uG.symm;have Cq:=uH.symm;clear uG Co uH;subst Cp;subst Cq));have ET:0≤(eo:Int):=dt;have EU:eo<(eF.length:Int):=dt;obtain⟨Hs,Bi,Bj,aav,oF,wH,wI⟩:=oY (Kd.gX eu.1).2.2 eo ET EU;cases aav;obtain⟨afr,Kh,Ki,Bk⟩:=Kd.WD eu.1 [] eo ET (by first|exact EU|exact dt|(have e_:=(Kd.gX eu.1).1;omega));obtain⟨U7,U8,rfl,sr,ss⟩:=Kd.jX Ki;have oG:=Bk 0 _ rfl;rw[Nat.add_zero,show((Kd.slice 5 (Kd.int .u8))).sz=1 from rfl,Nat.mul_one] at oG;replace oG:=Option.some.inj (oG.symm.trans oF);injection oG with QO aaw QP
    rw[QO] at ss;rw[QP] at sr;have oH:=ak (show Kd.V (Kd.int .u8) 5 _ w.heap.size _ _ (dn eF eo) from Kd.za sr ss);clear QO aaw QP ss sr;clear Bk Kh;have jL:=ak wI;have EV:=ak wH;clear wI wH;replace ET:=eq_true ET;replace EU:=eq_true EU;refine eW (n:=11) (S:=fun w'=>w'.cell? ⟨dA,0,none⟩=some (.int .i64 az)∧w'.cell? ⟨dA,1,none⟩=some (.int .i64 ax)∧w'.cell? ⟨dA,2,none⟩=some (.int .i64 aA)∧w'.cell? ⟨dA,3,none⟩=some (.int .i64 aC)∧w'.cell? ⟨dA,4,none⟩=some (.int .i64 aV)∧w'.cell? ⟨dA,5,none⟩=some (.int .i64 aX)∧w'.cell? ⟨dA,6,none⟩=some (.slice lJ t278.length lK)∧w'.cell? ⟨dA,7,none⟩=some (.slice rC t281.length rD)∧w'.cell? ⟨dA,8,none⟩=some (.slice (some Hs) eF.length ER)∧w'.cell? (Hs.add (eo).toNat)=some (.slice Bi (dn eF eo).length Bj)) (ds:=[10]) #[false,false,false,false,false,false,false,false,false,false,false] (by kernel_rfl) rfl rfl ⟨cL bE 0,cL bE 1,cL bE 2,cL bE 3,cL bE 4,cL bE 5,cL bE 6,cL bE 7,cL bE 8,oF⟩ (fun hHeld=>?_);refine je bS.aas bS.QL (fun eU u9=>?_);generalize wr.drew=ZX at j6 j7 eu bE dP HB oH jL oF hHeld⊢;refine dd (i:=0) (N:=some 22) (v:= ?_) (a':= ?_) #[true,false,false,false,false,false,false,false,false,false,false] rfl rfl (cv eU.1 (by kernel_rfl)) (fun _ _ _ h=>h) (Or.inl ⟨by rfl,?_⟩) ?_ ?_;rotate_left
    ·intro w'
     go_simp
     with_reducible rfl
    rotate_left
    ·simp only[Act.put,List.setIfInBounds_toArray,List.set_cons_zero,List.set_cons_succ,bp,bF];rfl
    refine dd (i:=2) (N:=some 24) (v:= ?_) (a':= ?_) #[true,false,true,false,false,false,false,false,false,false,false] rfl rfl (cv eU.1 (by kernel_rfl)) (fun _ _ _ h=>h) (Or.inl ⟨by rfl,?_⟩) ?_ ?_;rotate_left
    ·intro w'
     go_simp
     with_reducible rfl
    rotate_left
    ·simp only[Act.put,List.setIfInBounds_toArray,List.set_cons_zero,List.set_cons_succ,bp,bF];rfl
    refine dd (i:=3) (N:=some 25) (v:= ?_) (a':= ?_) #[true,false,true,true,false,false,false,false,false,false,false] rfl rfl (cv eU.1 (by kernel_rfl)) (fun _ _ _ h=>h) (Or.inl ⟨by rfl,?_⟩) ?_ ?_;rotate_left
    ·intro w'
     go_simp
     with_reducible rfl
    rotate_left
    ·simp only[Act.put,List.setIfInBounds_toArray,List.set_cons_zero,List.set_cons_succ,bp,bF];rfl
    refine dd (i:=5) (N:=some 27) (v:= ?_) (a':= ?_) #[true,false,true,true,false,true,false,false,false,false,false] rfl rfl (cv eU.1 (by kernel_rfl)) (fun _ _ _ h=>h) (Or.inl ⟨by rfl,?_⟩) ?_ ?_;rotate_left
    ·intro w'
     go_simp
     with_reducible rfl
    rotate_left
    ·simp only[Act.put,List.setIfInBounds_toArray,List.set_cons_zero,List.set_cons_succ,bp,bF];rfl
    refine ke (i:=1) (N:=some 23) (v:= ?_) (a':= ?_) #[true,true,true,true,false,true,false,false,false,false,false] rfl rfl (fx eU.1 u9.1 (by kernel_rfl)) (fun _ _ _ h=>h) (Or.inl ⟨by rfl,?_⟩) hHeld ?_ ?_;rotate_left
    ·rintro w' ⟨s0,s1,s2,s3,s4,s5,s6,s7,s8,s9⟩
     go_simp
     with_reducible rfl
    rotate_left
    ·simp only[Act.put,List.setIfInBounds_toArray,List.set_cons_zero,List.set_cons_succ,bp,bF];rfl
    refine ke (i:=4) (N:=some 26) (v:= ?_) (a':= ?_) #[true,true,true,true,true,true,false,false,false,false,false] rfl rfl (fx eU.1 u9.1 (by kernel_rfl)) (fun _ _ _ h=>h) (Or.inl ⟨by rfl,?_⟩) hHeld ?_ ?_;rotate_left
    ·rintro w' ⟨s0,s1,s2,s3,s4,s5,s6,s7,s8,s9⟩
     go_simp
     with_reducible rfl
    rotate_left
    ·simp only[Act.put,List.setIfInBounds_toArray,List.set_cons_zero,List.set_cons_succ,bp,bF];rfl
    refine dd (i:=6) (N:=some 28) (v:= ?_) (a':= ?_) #[true,true,true,true,true,true,true,false,false,false,false] rfl rfl (cv eU.1 (by kernel_rfl)) (fun _ _ _ h=>h) (Or.inl ⟨by rfl,?_⟩) ?_ ?_;rotate_left
    ·intro w'
     go_simp
     with_reducible rfl
    rotate_left
    ·simp only[Act.put,List.setIfInBounds_toArray,List.set_cons_zero,List.set_cons_succ,bp,bF];rfl
    refine ke (i:=7) (N:=some 29) (v:= ?_) (a':= ?_) #[true,true,true,true,true,true,true,true,false,false,false] rfl rfl (fx eU.1 u9.1 (by kernel_rfl)) (fun _ _ _ h=>h) (Or.inl ⟨by rfl,?_⟩) hHeld ?_ ?_;rotate_left
    ·rintro w' ⟨s0,s1,s2,s3,s4,s5,s6,s7,s8,s9⟩
     go_simp
     with_reducible rfl
    rotate_left
    ·simp only[Act.put,List.setIfInBounds_toArray,List.set_cons_zero,List.set_cons_succ,bp,bF];rfl
    refine qB (i:=8) (N:=some 30) #[true,true,true,true,true,true,true,true,true,false,false] rfl rfl (fR eU.1 (by kernel_rfl)) (by decide) (fun K hK=>?_);refine pN Tryz.func92 #[.slice Bi (dn eF eo).length Bj] ?_
    with_reducible refine(dv.calls _ _ (dn eF eo) t288 _ ?di ?gJ A22.1).mono ?_
    (case di=>repeat (first|exact(by repeat (first|(with_reducible exact jL.1)|(with_reducible refine Kd.cD ?_ _)|(with_reducible refine Kd.cE ?_ _)|(with_reducible refine Kd.cY ?_)|exact jL.1))|(with_reducible refine Kd.cD ?_ _)|(with_reducible refine Kd.cE ?_ _)|(with_reducible refine Kd.cY ?_)));(case gJ=>exact EV.1);rintro e w26 ⟨amn,rfl,gu,hb⟩;obtain⟨QQ,QR,rfl⟩:=Kd.bm gu;have amo:=(hb.cell (World.block_lt_of_cell? _ _ (hHeld.2.2.2.2.2.2.2.2.2))).trans (hHeld.2.2.2.2.2.2.2.2.2);refine⟨_,rfl,?_⟩;have iR:=qr j6 hb;have iT:=qr j7 hb;have jQ:=ak (Kd.Au (by(with_reducible repeat (first|apply Kd.mY|apply Kd.qA|apply Kd.lF));exact eu.1) (Kd.iE gu) hb);have lP:=ak (Kd.nH (by(with_reducible repeat (first|apply Kd.cV|apply Kd.cT|apply Kd.dz));exact oH.1) (Kd.iE gu) hb);have tA:=ak (Kd.bO (Kd.rZ (M:=fun k_=>(w.heap.size≤k_)) gu (aq bl) (fun k_ h_=>h_)) (aq bl));have Bh:=qk bE hb;have n6_:=qk dP hb;have n7_:=ak (Kd.aj (by repeat (first|(with_reducible exact jL.1)|(with_reducible refine Kd.cD ?_ _)|(with_reducible refine Kd.cE ?_ _)|(with_reducible refine Kd.cY ?_)|exact jL.1)) hb);have n8_:=qb hb;clear j6;clear j7;clear eu;clear oH;clear bE;clear dP;clear jL;clear HB;have j6:=iR;have j7:=iT;have eu:=jQ;have oH:=lP;have QS:=tA;have bE:=Bh;have dP:=n6_;have jL:=n7_;have HB:=n8_;clear iR iT jQ lP tA Bh n6_ n7_ n8_;(try clear hb);(try clear iq);(try clear hk);(try clear hi);(try clear gu);have p23:0≤(eo:Int):=dt;have q23:(eo:Int)<((eF.length:Int):Int):=dt;obtain⟨xU,NV,EN,QT,aaz,amp,QU⟩:=Kd.uL eu.1 (by omega);(first|cases EN|(injection EN with U9 en_ ec_;(first|subst U9|(injection U9 with U9;subst U9));subst ec_;clear en_));have aaA:=ak QT;have QV:=ak QU;clear QT aaz QU;(first|simp only[add_plain] at oF|skip);obtain⟨ams,QW,QX,Ht,Hu⟩:=Kd.rY eu.1 [] (eo:Int) p23 q23;obtain⟨aaB,aaC,rfl,aaD,aaE⟩:=Kd.jX QX;have Kj:=Ht 0 _ rfl;have Kk:=Hu 0;(try simp only[show((Kd.slice 5 (Kd.int .u8))).sz=1 from rfl,Nat.mul_one,Nat.add_zero] at Kj);(try simp only[show((Kd.slice 5 (Kd.int .u8))).sz=1 from rfl,Nat.mul_one,Nat.add_zero] at Kk);clear QW Ht Hu QX;replace p23:=eq_true p23;replace q23:=eq_true q23;have EX:=ak (show Kd.N (Kd.slice 5 (Kd.int .u8)) 33 _ w.heap.size (fun k_=>(k_<w0.heap.size∨w.heap.size≤k_)∧some k_≠(.slice lJ t278.length lK:Value).ownBlock∧some k_≠(.slice rC t281.length rD:Value).ownBlock∧some k_≠((Value.slice QQ t288.length QR):Value).ownBlock∧k_≠dA∧k_≠iV) (.slice (some ⟨xU,0,none⟩) eF.length ER) eF from(Kd.kF (eu.1) (fun k_ hk=>⟨hk.1.1,⟨hk.1.2.1,⟨hk.1.2.2.1,⟨hk.2,⟨hk.1.2.2.2.1,hk.1.2.2.2.2⟩⟩⟩⟩⟩)));replace EX:=ak (show Kd.N (Kd.slice 5 (Kd.int .u8)) 33 _ w.heap.size (fun k_=>(k_<w0.heap.size∨w.heap.size≤k_)∧some k_≠(.slice lJ t278.length lK:Value).ownBlock∧some k_≠(.slice rC t281.length rD:Value).ownBlock∧k_≠dA∧k_≠iV) (.slice (some ⟨xU,0,none⟩) eF.length ER) eF from Kd.kF EX.1 (fun k_ hk=>⟨hk.1,⟨hk.2.1,⟨hk.2.2.1,⟨hk.2.2.2.2.1,hk.2.2.2.2.2⟩⟩⟩⟩));obtain⟨amt,Hv,QY,Hw,QZ⟩:=Kd.rY EX.1 [] (eo:Int) dt (by have h_:(eo:Int)<((eF.length:Int):Int):=dt;first|exact h_|(have e_:=(Kd.gX eu.1).1;omega)|simpa using h_);obtain⟨aaF,aaG,rfl,aaH,aaI⟩:=Kd.jX QY;have HOX:=ak (Kd.dc (Kd.dc (Kd.oT (Kd.oT (Kd.oT (QS.1) (Kd.gz j6.1) (by decide)) (Kd.gz j7.1) (by decide)) (Kd.Ln eu.1) (by decide)) bE.1 (by decide)) dP.1 (by decide));have HOY:=ak (show Kd.R (Kd.int .u8) 5 _ w.heap.size (fun k_=>((fun k_=>(k_<w0.heap.size∨w.heap.size≤k_)∧some k_≠(.slice lJ t278.length lK:Value).ownBlock∧some k_≠(.slice rC t281.length rD:Value).ownBlock∧k_≠dA∧k_≠iV)) k_∧k_≠xU) (Value.slice QQ t288.length QR) t288 from Kd.bJ HOX.1 (fun k_ hk=>⟨⟨.inr hk.1.1.1.1.1.1,hk.1.1.1.1.2,hk.1.1.1.2,hk.1.2,hk.2⟩,fun e_=>(hk.1.1.2) (by rw[e_];rfl)⟩));have EZ:=(Kd.Lp EX.1 (eo:Int) dt (by have h_:(eo:Int)<((eF.length:Int):Int):=dt;first|exact h_|(have e_:=(Kd.gX eu.1).1;omega)|simpa using h_) (oU:=[(Value.slice QQ t288.length QR)]) (j:=0) Hv Hw (show 1≤1 from by decide) (x':=t288) (afi HOY.1) (fun _ hk=>hk)).1;(try simp only[show((Kd.slice 5 (Kd.int .u8))).sz=1 from rfl,Nat.mul_one,Nat.add_zero] at EZ);rw[←Hr.1] at EZ;have aaJ:=ak EZ;clear Hv Hw QZ QY EZ;refine ft hK (fun hHeld=>?_) ⟨cL bE 0,cL bE 1,cL bE 2,cL bE 3,cL bE 4,cL bE 5,cL bE 6,cL bE 7,cL bE 8,amo⟩;clear hK K;refine dd (i:=9) (N:=some 31) (v:= ?_) (a':= ?_) #[true,true,true,true,true,true,true,true,true,true,false] rfl rfl (cv eU.1 (by kernel_rfl)) (fun _ _ _ h=>h) (Or.inl ⟨by rfl,?_⟩) ?_ ?_;rotate_left
    ·intro w'
     go_simp
     with_reducible rfl
    rotate_left
    ·simp only[Act.put,List.setIfInBounds_toArray,List.set_cons_zero,List.set_cons_succ,bp,bF];rfl
    refine qL (i:=10) (N:=none) #[true,true,true,true,true,true,true,true,true,true,true] rfl rfl (fR eU.1 (by kernel_rfl)) (by decide) (fun K hK=>?_);refine xC ?_;refine hK.out _ _ ?_;clear hK K;refine gF (mc eU.1 (by kernel_rfl)) ?_
    try go_wp2
    go_roundg k1
    case measure=>have:=iB.1;omega
    case rel=>exact⟨(wrap64 (eo+1)),aau,(.slice (some ⟨xU,0,none⟩) eF.length ER),rs,H,⟨by have:=iB.1;omega⟩,⟨by(with_reducible repeat (first|apply Kd.bQ|apply Kd.dh|apply Kd.cR));exact Kd.bJ (Kd.fu (p:=⟨xU,(eo:Int).toNat,none⟩) (Kd.dc j6.1 QV.1 (by decide)) (fun _ hk=>hk.2) ((Value.slice QQ t288.length QR))) (fun _ hk=>hk.1)⟩,⟨by(with_reducible repeat (first|apply Kd.bQ|apply Kd.dh|apply Kd.cR));exact Kd.bJ (Kd.fu (p:=⟨xU,(eo:Int).toNat,none⟩) (Kd.dc j7.1 QV.1 (by decide)) (fun _ hk=>hk.2) ((Value.slice QQ t288.length QR))) (fun _ hk=>hk.1)⟩,⟨by(with_reducible repeat (first|apply Kd.mY|apply Kd.qA|apply Kd.lF));exact aaJ.1⟩,⟨by(with_reducible repeat (first|refine cW ?_ _|refine aY ?_|refine ar ?_ _));refine aJ ?_ (by have h_:=Kd.Dw eu.1 (fun _ hk=>hk.1.2.2.2.1);intro e_;exact h_ (by rw[e_];rfl)) _;(with_reducible repeat (first|refine cW ?_ _|refine aY ?_|refine ar ?_ _));exact bE.1⟩,⟨by(with_reducible repeat (first|refine cW ?_ _|refine aY ?_|refine ar ?_ _));refine aJ ?_ (by have h_:=Kd.Dw eu.1 (fun _ hk=>hk.1.2.2.2.2);intro e_;exact h_ (by rw[e_];rfl)) _;(with_reducible repeat (first|refine cW ?_ _|refine aY ?_|refine ar ?_ _));exact dP.1⟩,⟨by repeat (first|(with_reducible first|exact HB.1|apply ab|apply cZ|apply eZ|refine aH ?_ aaA.1|refine aH ?_ Ho.1|refine aH ?_ Hp.1)|exact HB.1)⟩⟩
   ·obtain⟨rfl,rfl,rfl,rfl,rfl,rfl,rfl,rfl,rfl⟩:=s9 H;have PQ:=jl.1;have PR:=jm.1;obtain⟨zA,zB⟩:=cf bE;obtain⟨vW,vX⟩:=cf dP;obtain⟨Kl,Km,Q0⟩:=Kd.mZ eu.1;subst Q0;go_wp2;refine bodyPost_ret (results_cell_row rfl _ _ iV 28 #[.int .i64 az,.int .i64 ax,.int .i64 aA,.int .i64 aC,.int .i64 aV,.int .i64 aX,.slice lJ t278.length lK,.slice rC t281.length rD,.slice Kl eF.length Km] (0,0) _ rfl pk Tryz.underlying28 rfl (by kernel_rfl)) rfl ?_;exact⟨_,_,_,re,rt j6 dP,rt j7 dP,by(with_reducible repeat (first|apply Kd.mY|apply Kd.qA|apply Kd.lF));exact Kd.kF (Kd.lO (p:=⟨iV,8,none⟩) (Kd.lO (p:=⟨iV,7,none⟩) (Kd.lO (p:=⟨iV,6,none⟩) (Kd.lO (p:=⟨iV,5,none⟩) (Kd.lO (p:=⟨iV,4,none⟩) (Kd.lO (p:=⟨iV,3,none⟩) (Kd.lO (p:=⟨iV,2,none⟩) (Kd.lO (p:=⟨iV,1,none⟩) (Kd.lO (p:=⟨iV,0,none⟩) (Kd.kF eu.1 (fun k_ hk=>(⟨hk,hk.2.2.2.2⟩:_∧k_≠iV))) (fun _ hk=>hk.2) (.int .i64 az)) (fun _ hk=>hk.2) (.int .i64 ax)) (fun _ hk=>hk.2) (.int .i64 aA)) (fun _ hk=>hk.2) (.int .i64 aC)) (fun _ hk=>hk.2) (.int .i64 aV)) (fun _ hk=>hk.2) (.int .i64 aX)) (fun _ hk=>hk.2) (.slice lJ t278.length lK)) (fun _ hk=>hk.2) (.slice rC t281.length rD)) (fun _ hk=>hk.2) (.slice Kl eF.length Km)) (fun _ hk=>⟨hk.1.1,⟨hk.1.2.1,hk.1.2.2.1⟩⟩),bl⟩
end Go.Proofs.YtmhdcgmfbjcndaaGreatDoor.P
