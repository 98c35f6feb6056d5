import Derived.Test.YtmhdcgmfbjcndaaGreatDoorB11
import Derived.Test.YtmhdcgmfbjcndaaGreatDoorB17
set_option linter.unusedVariables false
set_option linter.unusedSimpArgs false
set_option maxRecDepth 100000
set_option maxHeartbeats 8000000
namespace Go.Proofs.YtmhdcgmfbjcndaaGreatDoor.P
open Go.RowKit Go.Proofs.aa.ag Go.Proofs.aa.ao Go.Proofs.aa.ay
attribute [local go_sem] bD bw cj bV bj bk bG bH
def cq.f(k:Nat)(l0:List cU)(dO:Int)(gH o8:Bool)(ig ij:Int):Option ((List cU)×Int×Int×Int):=(bW.f k l0).bind fun t270=>(if t270=true then((cm.f k l0).bind fun yy=>(if yy.2=true then(if 0≤yy.1 then(if yy.1<(l0.length:Int) then((dR.f k ((aM l0 yy.1).f0) true o8 ig ij).bind fun t274=>(if t274=true then(jD.f l0 yy.1 ((aM l0 yy.1).f0) true o8 ig ij).bind fun t275=>(some (t275,yy.1,(aM l0 yy.1).f0,0)) else(some (([]:List cU),0,0,1)))) else none) else none) else(some (([]:List cU),0,0,9)))) else(some (([]:List cU),0,0,1)))
def cq.T6:Bool×List (List Nat×List Nat):=(true,[([],[]),([],[]),([0,1],[0,1]),([2],[2]),([3],[3]),([],[]),([5],[5]),([0,1,2,3,4,5,6],[]),([7,4,6,0,1,2,3,4,5,6],[4,7])])
def cq.B6:List Nat:=[0,0,3,7,15,0,32,127,255]
theorem cq.ad2:mb .any (opsOf Tryz.f148 6)=cq.T6:=by kernel_rfl
theorem cq.WV:kR cq.T6.2 cq.B6=true:=by kernel_rfl
def cq.T9:Bool×List (List Nat×List Nat):=(true,[([],[]),([],[]),([],[]),([0,1,2],[0,1,2]),([],[]),([],[]),([5],[5]),([4,6],[4,6]),([3,3,0,1,2,3],[3]),([7,8,0,1,2,3,4,5,6,7,8],[7]),([9,0,1,2,3,4,5,6,7,8,9],[])])
def cq.B9:List Nat:=[0,0,0,7,0,0,32,112,15,511,1023]
theorem cq.ali:mb .any (opsOf Tryz.f148 9)=cq.T9:=by kernel_rfl
theorem cq.ad3:kR cq.T9.2 cq.B9=true:=by kernel_rfl
theorem cq.calls(k:Nat)(A0:Option Addr)(c0:Nat)(l0:List cU)(dO:Int)(gH o8:Bool)(ig ij:Int)(r1:List cU)(r2 r3 r4:Int)(w:World)(fS:Kd.C gW w A0 l0.length l0)(jr:l0.length≤c0)(h:cq.f k l0 dO gH o8 ig ij=some (r1,r2,r3,r4)):
 Calls Tryz.prog 148 #[.slice A0 l0.length c0,.agg #[.int .i64 dO,.bool gH,.bool o8,.int .i64 ig,.int .i64 ij]] w fun e w'=>∃kT:Value,e= .returned (.tuple #[kT,.agg #[.int .i64 r2,.int .i64 r3],.int .i64 r4])∧Kd.R gW 43 w' w.heap.size (fun _=>True) kT r1∧Below w.heap.size w w':=by
 have D':=Tryz.underlying43;have JT:=Tryz.underlying32;have jb:=ak fS;have uj:=ak jr;clear fS jr;have HB:=ak (Below.refl w.heap.size w);have H:=ak h;clear h;unfold cq.f at H;replace H:=bI H;obtain⟨t270,A3,H⟩:=H;(try dsimp only at H);replace H:=ib H;rcases H with⟨rfl,H⟩|⟨rfl,H⟩
 ·replace H:=bI H;obtain⟨⟨t271,t272⟩,A5,H⟩:=H;(try dsimp only at H);replace H:=ib H;rcases H with⟨rfl,H⟩|⟨rfl,H⟩
  ·replace H:=iO H;obtain⟨vO,H⟩:=H;replace H:=iO H;obtain⟨rb,H⟩:=H;replace H:=bI H;obtain⟨t274,A9,H⟩:=H;(try dsimp only at H);replace H:=ib H;rcases H with⟨rfl,H⟩|⟨rfl,H⟩
   ·replace H:=bI H;obtain⟨t275,A11,H⟩:=H;(try dsimp only at H);obtain⟨rfl,rfl,rfl,rfl⟩:=s4 H;go_enter Tryz.func148,Tryz.ntmps148
    try go_wp2_with(first|((with_reducible refine gd 3 ?_);refine bY 43 #[.int .i64 dO,.bool gH,.bool o8,.int .i64 ig,.int .i64 ij] fun gZ SQ dw cO HB=>?_)|((with_reducible refine gd 5 ?_);refine bX 32 #[.int .i64 0,.int .i64 0] fun mg WW e7 PX HB hg hb=>?_;obtain⟨dX,ik⟩:=nn dw hg;replace dw:=qk dw hb;clear hb hg)|((with_reducible refine gc 40 ?_);refine gl 10 Tryz.func40 #[.slice A0 l0.length c0] ?_;(with_reducible refine(bW.calls k _ _ l0 true _ (cu jb) uj.1 A3.1).mono ?_);rintro e ZF ⟨rfl,hb⟩;refine⟨_,rfl,?_⟩;replace dw:=qk dw hb;replace e7:=qk e7 hb;replace HB:=qb hb;clear hb)|((with_reducible refine gc 65 ?_);refine gl 15 Tryz.func65 #[.slice A0 l0.length c0] ?_;(with_reducible refine(cm.calls k _ _ l0 t271 true _ (cu jb) uj.1 A5.1).mono ?_);rintro e TS ⟨rfl,hb⟩;refine⟨_,rfl,?_⟩;replace dw:=qk dw hb;replace e7:=qk e7 hb;replace HB:=qb hb;clear hb))
    have iR:=ak (aY dw.1);have iT:=ak (aY e7.1);have jQ:=ak (eZ HB.1);clear dw;clear e7;clear HB;have dw:=iR;have e7:=iT;have HB:=jQ;clear iR iT jQ;have JU:0≤(t271:Int):=dt;have JV:t271<(l0.length:Int):=dt;obtain⟨lQ,ZH,ox,oy,oz,oA,oB⟩:=gq jb.1 t271 JU JV;have gA:=oB;have gB:=oA;have gC:=oz;have gD:=oy;have gE:=ox;cases ZH;replace ox:=hy ox;replace oy:=hy oy;replace oz:=hy oz;replace oA:=hy oA;replace oB:=hy oB;replace JU:=eq_true JU;replace JV:=eq_true JV;refine eW (n:=9) (S:=fun w'=>w'.cell? (lQ.add ((t271).toNat*5))=some (.int .i64 ((aM l0 t271).f0))∧w'.cell? ⟨(lQ.add ((t271).toNat*5)).block,(lQ.add ((t271).toNat*5)).off+1,none⟩=some (.bool ((aM l0 t271).f1))∧w'.cell? ⟨(lQ.add ((t271).toNat*5)).block,(lQ.add ((t271).toNat*5)).off+2,none⟩=some (.bool ((aM l0 t271).f2))∧w'.cell? ⟨(lQ.add ((t271).toNat*5)).block,(lQ.add ((t271).toNat*5)).off+3,none⟩=some (.int .i64 ((aM l0 t271).f3))∧w'.cell? ⟨(lQ.add ((t271).toNat*5)).block,(lQ.add ((t271).toNat*5)).off+4,none⟩=some (.int .i64 ((aM l0 t271).f4))) (ds:=[]) #[false,false,false,false,false,false,false,false,false] (by kernel_rfl) rfl rfl ⟨((HB.1.cell (World.block_lt_of_cell? w _ gE)).trans gE),((HB.1.cell (World.block_lt_of_cell? w _ gD)).trans gD),((HB.1.cell (World.block_lt_of_cell? w _ gC)).trans gC),((HB.1.cell (World.block_lt_of_cell? w _ gB)).trans gB),((HB.1.cell (World.block_lt_of_cell? w _ gA)).trans gA)⟩ (fun hHeld=>?_);refine je cq.ad2 cq.WV (fun eU u9=>?_);generalize TS.drew=M9 at dw e7 HB ox oy oz oA oB hHeld⊢;refine dd (i:=0) (N:=some 21) (v:= ?_) (a':= ?_) #[true,false,false,false,false,false,false,false,false] rfl rfl (cv eU.1 (by kernel_rfl)) (fun _ _ _ h=>h) (Or.inl ⟨by rfl,?_⟩) ?_ ?_;rotate_left
    ·intro w'
     go_simp
     with_reducible rfl
    rotate_left
    ·simp only[Act.put,List.setIfInBounds_toArray,List.set_cons_zero,List.set_cons_succ,bp,bF];rfl
    refine dd (i:=1) (N:=some 22) (v:= ?_) (a':= ?_) #[true,true,false,false,false,false,false,false,false] rfl rfl (cv eU.1 (by kernel_rfl)) (fun _ _ _ h=>h) (Or.inl ⟨by rfl,?_⟩) ?_ ?_;rotate_left
    ·intro w'
     go_simp
     with_reducible rfl
    rotate_left
    ·simp only[Act.put,List.setIfInBounds_toArray,List.set_cons_zero,List.set_cons_succ,bp,bF];rfl
    refine dd (i:=2) (N:=some 23) (v:= ?_) (a':= ?_) #[true,true,true,false,false,false,false,false,false] rfl rfl (cv eU.1 (by kernel_rfl)) (fun _ _ _ h=>h) (Or.inl ⟨by rfl,?_⟩) ?_ ?_;rotate_left
    ·intro w'
     go_simp
     with_reducible rfl
    rotate_left
    ·simp only[Act.put,List.setIfInBounds_toArray,List.set_cons_zero,List.set_cons_succ,bp,bF];rfl
    refine dd (i:=3) (N:=some 24) (v:= ?_) (a':= ?_) #[true,true,true,true,false,false,false,false,false] rfl rfl (cv eU.1 (by kernel_rfl)) (fun _ _ _ h=>h) (Or.inl ⟨by rfl,?_⟩) ?_ ?_;rotate_left
    ·intro w'
     go_simp
     with_reducible rfl
    rotate_left
    ·simp only[Act.put,List.setIfInBounds_toArray,List.set_cons_zero,List.set_cons_succ,bp,bF];rfl
    refine dd (i:=5) (N:=some 26) (v:= ?_) (a':= ?_) #[true,true,true,true,false,true,false,false,false] rfl rfl (cv eU.1 (by kernel_rfl)) (fun _ _ _ h=>h) (Or.inl ⟨by rfl,?_⟩) ?_ ?_;rotate_left
    ·intro w'
     go_simp
     with_reducible rfl
    rotate_left
    ·simp only[Act.put,List.setIfInBounds_toArray,List.set_cons_zero,List.set_cons_succ,bp,bF];rfl
    refine ke (i:=4) (N:=some 25) (v:= ?_) (a':= ?_) #[true,true,true,true,true,true,false,false,false] rfl rfl (fx eU.1 u9.1 (by kernel_rfl)) (fun _ _ _ h=>h) (Or.inl ⟨by rfl,?_⟩) hHeld ?_ ?_;rotate_left
    ·rintro w' ⟨s0,s1,s2,s3,s4⟩
     go_simp
     with_reducible rfl
    rotate_left
    ·simp only[Act.put,List.setIfInBounds_toArray,List.set_cons_zero,List.set_cons_succ,bp,bF];rfl
    refine qB (i:=6) (N:=none) #[true,true,true,true,true,true,true,false,false] rfl rfl (fR eU.1 (by kernel_rfl)) (by decide) (fun K hK=>?_);have ato:M9.cell? ⟨gZ,1,none⟩=some (.bool gH):=cL dw 1;have apK:=fZ dw;have aiq:=ik.1;have air:=dX.1;refine xC ?_;refine hK.out _ _ ⟨((cell_far (p:=⟨gZ,_,none⟩) (by first|exact Nat.ne_of_lt (Nat.lt_of_lt_of_le (by have:=World.block_lt_of_cell? _ _ gE;first|rwa [av] at this|exact this) cO.1)|(rw[av];exact Nat.ne_of_lt (Nat.lt_of_lt_of_le (by have:=World.block_lt_of_cell? _ _ gE;first|rwa [av] at this|exact this) cO.1))|(show(Addr.add _ _).block≠_;rw[av];exact Nat.ne_of_lt (Nat.lt_of_lt_of_le (by have:=World.block_lt_of_cell? _ _ gE;first|rwa [av] at this|exact this) cO.1))|(dsimp only;exact Nat.ne_of_lt (Nat.lt_of_lt_of_le (by have:=World.block_lt_of_cell? _ _ gE;first|rwa [av] at this|exact this) cO.1))) _).trans (hHeld.1)),((cell_far (p:=⟨gZ,_,none⟩) (by first|exact Nat.ne_of_lt (Nat.lt_of_lt_of_le (by have:=World.block_lt_of_cell? _ _ gD;first|rwa [av] at this|exact this) cO.1)|(rw[av];exact Nat.ne_of_lt (Nat.lt_of_lt_of_le (by have:=World.block_lt_of_cell? _ _ gD;first|rwa [av] at this|exact this) cO.1))|(show(Addr.add _ _).block≠_;rw[av];exact Nat.ne_of_lt (Nat.lt_of_lt_of_le (by have:=World.block_lt_of_cell? _ _ gD;first|rwa [av] at this|exact this) cO.1))|(dsimp only;exact Nat.ne_of_lt (Nat.lt_of_lt_of_le (by have:=World.block_lt_of_cell? _ _ gD;first|rwa [av] at this|exact this) cO.1))) _).trans (hHeld.2.1)),((cell_far (p:=⟨gZ,_,none⟩) (by first|exact Nat.ne_of_lt (Nat.lt_of_lt_of_le (by have:=World.block_lt_of_cell? _ _ gC;first|rwa [av] at this|exact this) cO.1)|(rw[av];exact Nat.ne_of_lt (Nat.lt_of_lt_of_le (by have:=World.block_lt_of_cell? _ _ gC;first|rwa [av] at this|exact this) cO.1))|(show(Addr.add _ _).block≠_;rw[av];exact Nat.ne_of_lt (Nat.lt_of_lt_of_le (by have:=World.block_lt_of_cell? _ _ gC;first|rwa [av] at this|exact this) cO.1))|(dsimp only;exact Nat.ne_of_lt (Nat.lt_of_lt_of_le (by have:=World.block_lt_of_cell? _ _ gC;first|rwa [av] at this|exact this) cO.1))) _).trans (hHeld.2.2.1)),((cell_far (p:=⟨gZ,_,none⟩) (by first|exact Nat.ne_of_lt (Nat.lt_of_lt_of_le (by have:=World.block_lt_of_cell? _ _ gB;first|rwa [av] at this|exact this) cO.1)|(rw[av];exact Nat.ne_of_lt (Nat.lt_of_lt_of_le (by have:=World.block_lt_of_cell? _ _ gB;first|rwa [av] at this|exact this) cO.1))|(show(Addr.add _ _).block≠_;rw[av];exact Nat.ne_of_lt (Nat.lt_of_lt_of_le (by have:=World.block_lt_of_cell? _ _ gB;first|rwa [av] at this|exact this) cO.1))|(dsimp only;exact Nat.ne_of_lt (Nat.lt_of_lt_of_le (by have:=World.block_lt_of_cell? _ _ gB;first|rwa [av] at this|exact this) cO.1))) _).trans (hHeld.2.2.2.1)),((cell_far (p:=⟨gZ,_,none⟩) (by first|exact Nat.ne_of_lt (Nat.lt_of_lt_of_le (by have:=World.block_lt_of_cell? _ _ gA;first|rwa [av] at this|exact this) cO.1)|(rw[av];exact Nat.ne_of_lt (Nat.lt_of_lt_of_le (by have:=World.block_lt_of_cell? _ _ gA;first|rwa [av] at this|exact this) cO.1))|(show(Addr.add _ _).block≠_;rw[av];exact Nat.ne_of_lt (Nat.lt_of_lt_of_le (by have:=World.block_lt_of_cell? _ _ gA;first|rwa [av] at this|exact this) cO.1))|(dsimp only;exact Nat.ne_of_lt (Nat.lt_of_lt_of_le (by have:=World.block_lt_of_cell? _ _ gA;first|rwa [av] at this|exact this) cO.1))) _).trans (hHeld.2.2.2.2))⟩ (fun hHeld=>?_);clear hK K;refine dd (i:=7) (N:=some 27) (v:= ?_) (a':= ?_) #[true,true,true,true,true,true,true,true,false] rfl rfl (cv eU.1 (by kernel_rfl)) (fun _ _ _ h=>h) (Or.inl ⟨by rfl,?_⟩) ?_ ?_;rotate_left
    ·intro w'
     go_simp
     with_reducible rfl
    rotate_left
    ·simp only[Act.put,List.setIfInBounds_toArray,List.set_cons_zero,List.set_cons_succ,bp,bF];rfl
    refine qB (i:=8) (N:=none) #[true,true,true,true,true,true,true,true,true] rfl rfl (fR eU.1 (by kernel_rfl)) (by decide) (fun K hK=>?_);have atp:M9.cell? ⟨gZ,0,none⟩=some (.int .i64 dO):=cL dw 0;have apL:=fZ dw;have ais:=ik.1;have ait:=dX.1;refine xC ?_;refine hK.out _ _ ⟨((cell_far (p:=⟨gZ,_,none⟩) (by first|exact Nat.ne_of_lt (Nat.lt_of_lt_of_le (by have:=World.block_lt_of_cell? _ _ gE;first|rwa [av] at this|exact this) cO.1)|(rw[av];exact Nat.ne_of_lt (Nat.lt_of_lt_of_le (by have:=World.block_lt_of_cell? _ _ gE;first|rwa [av] at this|exact this) cO.1))|(show(Addr.add _ _).block≠_;rw[av];exact Nat.ne_of_lt (Nat.lt_of_lt_of_le (by have:=World.block_lt_of_cell? _ _ gE;first|rwa [av] at this|exact this) cO.1))|(dsimp only;exact Nat.ne_of_lt (Nat.lt_of_lt_of_le (by have:=World.block_lt_of_cell? _ _ gE;first|rwa [av] at this|exact this) cO.1))) _).trans (hHeld.1)),((cell_far (p:=⟨gZ,_,none⟩) (by first|exact Nat.ne_of_lt (Nat.lt_of_lt_of_le (by have:=World.block_lt_of_cell? _ _ gD;first|rwa [av] at this|exact this) cO.1)|(rw[av];exact Nat.ne_of_lt (Nat.lt_of_lt_of_le (by have:=World.block_lt_of_cell? _ _ gD;first|rwa [av] at this|exact this) cO.1))|(show(Addr.add _ _).block≠_;rw[av];exact Nat.ne_of_lt (Nat.lt_of_lt_of_le (by have:=World.block_lt_of_cell? _ _ gD;first|rwa [av] at this|exact this) cO.1))|(dsimp only;exact Nat.ne_of_lt (Nat.lt_of_lt_of_le (by have:=World.block_lt_of_cell? _ _ gD;first|rwa [av] at this|exact this) cO.1))) _).trans (hHeld.2.1)),((cell_far (p:=⟨gZ,_,none⟩) (by first|exact Nat.ne_of_lt (Nat.lt_of_lt_of_le (by have:=World.block_lt_of_cell? _ _ gC;first|rwa [av] at this|exact this) cO.1)|(rw[av];exact Nat.ne_of_lt (Nat.lt_of_lt_of_le (by have:=World.block_lt_of_cell? _ _ gC;first|rwa [av] at this|exact this) cO.1))|(show(Addr.add _ _).block≠_;rw[av];exact Nat.ne_of_lt (Nat.lt_of_lt_of_le (by have:=World.block_lt_of_cell? _ _ gC;first|rwa [av] at this|exact this) cO.1))|(dsimp only;exact Nat.ne_of_lt (Nat.lt_of_lt_of_le (by have:=World.block_lt_of_cell? _ _ gC;first|rwa [av] at this|exact this) cO.1))) _).trans (hHeld.2.2.1)),((cell_far (p:=⟨gZ,_,none⟩) (by first|exact Nat.ne_of_lt (Nat.lt_of_lt_of_le (by have:=World.block_lt_of_cell? _ _ gB;first|rwa [av] at this|exact this) cO.1)|(rw[av];exact Nat.ne_of_lt (Nat.lt_of_lt_of_le (by have:=World.block_lt_of_cell? _ _ gB;first|rwa [av] at this|exact this) cO.1))|(show(Addr.add _ _).block≠_;rw[av];exact Nat.ne_of_lt (Nat.lt_of_lt_of_le (by have:=World.block_lt_of_cell? _ _ gB;first|rwa [av] at this|exact this) cO.1))|(dsimp only;exact Nat.ne_of_lt (Nat.lt_of_lt_of_le (by have:=World.block_lt_of_cell? _ _ gB;first|rwa [av] at this|exact this) cO.1))) _).trans (hHeld.2.2.2.1)),((cell_far (p:=⟨gZ,_,none⟩) (by first|exact Nat.ne_of_lt (Nat.lt_of_lt_of_le (by have:=World.block_lt_of_cell? _ _ gA;first|rwa [av] at this|exact this) cO.1)|(rw[av];exact Nat.ne_of_lt (Nat.lt_of_lt_of_le (by have:=World.block_lt_of_cell? _ _ gA;first|rwa [av] at this|exact this) cO.1))|(show(Addr.add _ _).block≠_;rw[av];exact Nat.ne_of_lt (Nat.lt_of_lt_of_le (by have:=World.block_lt_of_cell? _ _ gA;first|rwa [av] at this|exact this) cO.1))|(dsimp only;exact Nat.ne_of_lt (Nat.lt_of_lt_of_le (by have:=World.block_lt_of_cell? _ _ gA;first|rwa [av] at this|exact this) cO.1))) _).trans (hHeld.2.2.2.2))⟩ (fun hHeld=>?_);clear hK K;refine gF (mc eU.1 (by kernel_rfl)) ?_;have PN:=dX.1;have PO:=ik.1;obtain⟨p8,qa⟩:=cf dw
    try go_wp2_with((with_reducible refine gc 78 ?_);refine gl 29 Tryz.func78 #[.agg #[.int .i64 ((aM l0 t271).f0),.bool true,.bool o8,.int .i64 ig,.int .i64 ij]] ?_;(with_reducible refine(dR.calls k ((aM l0 t271).f0) true o8 ig ij true _ A9.1).mono ?_);rintro e WX ⟨rfl,hb⟩;refine⟨_,rfl,?_⟩;replace dw:=pb dw hb;replace e7:=qk e7 hb;replace HB:=qb hb;clear hb)
    have iR:=ak (aY dw.1);have iT:=ak (aY e7.1);have jQ:=ak (eZ HB.1);clear dw;clear e7;clear HB;have dw:=iR;have e7:=iT;have HB:=jQ;clear iR iT jQ;refine eW (n:=11) (S:=fun w'=>w'.cell? ⟨gZ,0,none⟩=some (.int .i64 ((aM l0 t271).f0))∧w'.cell? ⟨gZ,1,none⟩=some (.bool true)∧w'.cell? ⟨gZ,2,none⟩=some (.bool o8)∧w'.cell? ⟨gZ,3,none⟩=some (.int .i64 ig)∧w'.cell? ⟨gZ,4,none⟩=some (.int .i64 ij)) (ds:=[]) #[false,false,false,false,false,false,false,false,false,false,false] (by kernel_rfl) rfl rfl ⟨cL dw 0,cL dw 1,cL dw 2,cL dw 3,cL dw 4⟩ (fun hHeld=>?_);refine je cq.ali cq.ad3 (fun eU u9=>?_);generalize WX.drew=w22 at dw e7 HB hHeld⊢;refine dd (i:=0) (N:=some 32) (v:= ?_) (a':= ?_) #[true,false,false,false,false,false,false,false,false,false,false] rfl rfl (cv eU.1 (by kernel_rfl)) (fun _ _ _ h=>h) (Or.inl ⟨by rfl,?_⟩) ?_ ?_;rotate_left
    ·intro w'
     go_simp
     with_reducible rfl
    rotate_left
    ·simp only[Act.put,List.setIfInBounds_toArray,List.set_cons_zero,List.set_cons_succ,bp,bF];rfl
    refine dd (i:=1) (N:=some 33) (v:= ?_) (a':= ?_) #[true,true,false,false,false,false,false,false,false,false,false] rfl rfl (cv eU.1 (by kernel_rfl)) (fun _ _ _ h=>h) (Or.inl ⟨by rfl,?_⟩) ?_ ?_;rotate_left
    ·intro w'
     go_simp
     with_reducible rfl
    rotate_left
    ·simp only[Act.put,List.setIfInBounds_toArray,List.set_cons_zero,List.set_cons_succ,bp,bF];rfl
    refine dd (i:=4) (N:=some 36) (v:= ?_) (a':= ?_) #[true,true,false,false,true,false,false,false,false,false,false] rfl rfl (cv eU.1 (by kernel_rfl)) (fun _ _ _ h=>h) (Or.inl ⟨by rfl,?_⟩) ?_ ?_;rotate_left
    ·intro w'
     go_simp
     with_reducible rfl
    rotate_left
    ·simp only[Act.put,List.setIfInBounds_toArray,List.set_cons_zero,List.set_cons_succ,bp,bF];rfl
    refine dd (i:=5) (N:=some 37) (v:= ?_) (a':= ?_) #[true,true,false,false,true,true,false,false,false,false,false] rfl rfl (cv eU.1 (by kernel_rfl)) (fun _ _ _ h=>h) (Or.inl ⟨by rfl,?_⟩) ?_ ?_;rotate_left
    ·intro w'
     go_simp
     with_reducible rfl
    rotate_left
    ·simp only[Act.put,List.setIfInBounds_toArray,List.set_cons_zero,List.set_cons_succ,bp,bF];rfl
    refine ke (i:=2) (N:=some 34) (v:= ?_) (a':= ?_) #[true,true,true,false,true,true,false,false,false,false,false] rfl rfl (fx eU.1 u9.1 (by kernel_rfl)) (fun _ _ _ h=>h) (Or.inl ⟨by rfl,?_⟩) hHeld ?_ ?_;rotate_left
    ·rintro w' ⟨s0,s1,s2,s3,s4⟩
     go_simp
     with_reducible rfl
    rotate_left
    ·simp only[Act.put,List.setIfInBounds_toArray,List.set_cons_zero,List.set_cons_succ,bp,bF];rfl
    refine ke (i:=6) (N:=some 38) (v:= ?_) (a':= ?_) #[true,true,true,false,true,true,true,false,false,false,false] rfl rfl (fx eU.1 u9.1 (by kernel_rfl)) (fun _ _ _ h=>h) (Or.inl ⟨by rfl,?_⟩) hHeld ?_ ?_;rotate_left
    ·rintro w' ⟨s0,s1,s2,s3,s4⟩
     go_simp
     with_reducible rfl
    rotate_left
    ·simp only[Act.put,List.setIfInBounds_toArray,List.set_cons_zero,List.set_cons_succ,bp,bF];rfl
    refine dd (i:=7) (N:=some 39) (v:= ?_) (a':= ?_) #[true,true,true,false,true,true,true,true,false,false,false] rfl rfl (cv eU.1 (by kernel_rfl)) (fun _ _ _ h=>h) (Or.inl ⟨by rfl,?_⟩) ?_ ?_;rotate_left
    ·intro w'
     go_simp
     with_reducible rfl
    rotate_left
    ·simp only[Act.put,List.setIfInBounds_toArray,List.set_cons_zero,List.set_cons_succ,bp,bF];rfl
    refine qB (i:=3) (N:=some 35) #[true,true,true,true,true,true,true,true,false,false,false] rfl rfl (fR eU.1 (by kernel_rfl)) (by decide) (fun K hK=>?_);refine pN Tryz.func176 #[.slice (some lQ) l0.length c0,.int .i64 t271,.agg #[.int .i64 ((aM l0 t271).f0),.bool true,.bool o8,.int .i64 ig,.int .i64 ij]] ?_
    with_reducible refine(jD.calls _ _ l0 t271 ((aM l0 t271).f0) true o8 ig ij t275 _ ?di ?gJ A11.1).mono ?_
    (case di=>repeat (first|exact(Kd.aj jb.1 HB.1)|(with_reducible refine Kd.cD ?_ _)|(with_reducible refine Kd.cE ?_ _)|(with_reducible refine Kd.cY ?_)));(case gJ=>exact uj.1);rintro e w23 ⟨atq,rfl,gu,hb⟩;refine⟨_,rfl,?_⟩;have iR:=ak (Kd.bO (Kd.Zh gu (g:=gZ) (o:= .cells #[.int .i64 ((aM l0 t271).f0),.bool true,.bool o8,.int .i64 ig,.int .i64 ij] 43 (0,0)) (bu dw)) (aq bl));have iT:=qk dw hb;have jQ:=qk e7 hb;have lP:=qb hb;clear dw;clear e7;clear HB;have ad4:=iR;have dw:=iT;have e7:=jQ;have HB:=lP;clear iR iT jQ lP;(try clear hb);(try clear iq);(try clear hk);(try clear hi);(try clear gu);refine ft hK (fun hHeld=>?_);clear hK K;refine dd (i:=8) (N:=some 4) (v:= ?_) (a':= ?_) #[true,true,true,true,true,true,true,true,true,false,false] rfl rfl (cv eU.1 (by kernel_rfl)) (fun _ _ _ h=>h) (Or.inl ⟨by rfl,?_⟩) ?_ ?_;rotate_left
    ·intro w'
     go_simp
     with_reducible rfl
    rotate_left
    ·simp only[Act.put,List.setIfInBounds_toArray,List.set_cons_zero,List.set_cons_succ,bp,bF];rfl
    refine qB (i:=9) (N:=none) #[true,true,true,true,true,true,true,true,true,true,false] rfl rfl (fR eU.1 (by kernel_rfl)) (by decide) (fun K hK=>?_);have atr:w23.cell? ⟨mg,0,none⟩=some (.int .i64 0):=cL e7 0;have apM:=fZ e7;have aiu:=dX.1;have aiv:=ik.1;have att:w23.cell? ⟨mg,1,none⟩=some (.int .i64 0):=cL e7 1;have apN:=fZ e7;have aiw:=dX.1;have aix:=ik.1;refine xC ?_;refine hK.out _ _ ⟨((cell_far (p:=⟨mg,_,none⟩) dX.1 _).trans (((cell_far (p:=⟨mg,_,none⟩) dX.1 _).trans (hHeld.1)))),((cell_far (p:=⟨mg,_,none⟩) dX.1 _).trans (((cell_far (p:=⟨mg,_,none⟩) dX.1 _).trans (hHeld.2.1)))),((cell_far (p:=⟨mg,_,none⟩) dX.1 _).trans (((cell_far (p:=⟨mg,_,none⟩) dX.1 _).trans (hHeld.2.2.1)))),((cell_far (p:=⟨mg,_,none⟩) dX.1 _).trans (((cell_far (p:=⟨mg,_,none⟩) dX.1 _).trans (hHeld.2.2.2.1)))),((cell_far (p:=⟨mg,_,none⟩) dX.1 _).trans (((cell_far (p:=⟨mg,_,none⟩) dX.1 _).trans (hHeld.2.2.2.2))))⟩ (fun hHeld=>?_);clear hK K;refine dd (i:=10) (N:=some 6) (v:= ?_) (a':= ?_) #[true,true,true,true,true,true,true,true,true,true,true] rfl rfl (cv eU.1 (by kernel_rfl)) (fun _ _ _ h=>h) (Or.inl ⟨by rfl,?_⟩) ?_ ?_;rotate_left
    ·intro w'
     go_simp
     with_reducible rfl
    rotate_left
    ·simp only[Act.put,List.setIfInBounds_toArray,List.set_cons_zero,List.set_cons_succ,bp,bF];rfl
    refine gF (mc eU.1 (by kernel_rfl)) ?_
    try go_wp2
    refine bodyPost_ret (ek (rs:=[.tmp 4,.cell 5 32,.tmp 6]) rfl (by simp) (.tmp (.cell mg 32 #[.int .i64 t271,.int .i64 ((aM l0 t271).f0)] (0,0) _ rfl pk Tryz.underlying32 rfl (by kernel_rfl) (.tmp .nil)))) rfl ?_;exact⟨_,re,rT ad4 e7,bl⟩
   ·obtain⟨rfl,rfl,rfl,rfl⟩:=s4 H;go_enter Tryz.func148,Tryz.ntmps148
    try go_wp2_with(first|((with_reducible refine gd 3 ?_);refine bY 43 #[.int .i64 dO,.bool gH,.bool o8,.int .i64 ig,.int .i64 ij] fun gZ w26 dw cO HB=>?_)|((with_reducible refine gd 5 ?_);refine bX 32 #[.int .i64 0,.int .i64 0] fun mg w27 e7 PX HB hg hb=>?_;obtain⟨dX,ik⟩:=nn dw hg;replace dw:=qk dw hb;clear hb hg)|((with_reducible refine gc 40 ?_);refine gl 10 Tryz.func40 #[.slice A0 l0.length c0] ?_;(with_reducible refine(bW.calls k _ _ l0 true _ (cu jb) uj.1 A3.1).mono ?_);rintro e w28 ⟨rfl,hb⟩;refine⟨_,rfl,?_⟩;replace dw:=qk dw hb;replace e7:=qk e7 hb;replace HB:=qb hb;clear hb)|((with_reducible refine gc 65 ?_);refine gl 15 Tryz.func65 #[.slice A0 l0.length c0] ?_;(with_reducible refine(cm.calls k _ _ l0 t271 true _ (cu jb) uj.1 A5.1).mono ?_);rintro e w29 ⟨rfl,hb⟩;refine⟨_,rfl,?_⟩;replace dw:=qk dw hb;replace e7:=qk e7 hb;replace HB:=qb hb;clear hb))
    have iR:=ak (aY dw.1);have iT:=ak (aY e7.1);have jQ:=ak (eZ HB.1);clear dw;clear e7;clear HB;have dw:=iR;have e7:=iT;have HB:=jQ;clear iR iT jQ;have JU:0≤(t271:Int):=dt;have JV:t271<(l0.length:Int):=dt;obtain⟨lQ,ZH,ox,oy,oz,oA,oB⟩:=gq jb.1 t271 JU JV;have gA:=oB;have gB:=oA;have gC:=oz;have gD:=oy;have gE:=ox;cases ZH;replace ox:=hy ox;replace oy:=hy oy;replace oz:=hy oz;replace oA:=hy oA;replace oB:=hy oB;replace JU:=eq_true JU;replace JV:=eq_true JV;refine eW (n:=9) (S:=fun w'=>w'.cell? (lQ.add ((t271).toNat*5))=some (.int .i64 ((aM l0 t271).f0))∧w'.cell? ⟨(lQ.add ((t271).toNat*5)).block,(lQ.add ((t271).toNat*5)).off+1,none⟩=some (.bool ((aM l0 t271).f1))∧w'.cell? ⟨(lQ.add ((t271).toNat*5)).block,(lQ.add ((t271).toNat*5)).off+2,none⟩=some (.bool ((aM l0 t271).f2))∧w'.cell? ⟨(lQ.add ((t271).toNat*5)).block,(lQ.add ((t271).toNat*5)).off+3,none⟩=some (.int .i64 ((aM l0 t271).f3))∧w'.cell? ⟨(lQ.add ((t271).toNat*5)).block,(lQ.add ((t271).toNat*5)).off+4,none⟩=some (.int .i64 ((aM l0 t271).f4))) (ds:=[]) #[false,false,false,false,false,false,false,false,false] (by kernel_rfl) rfl rfl ⟨((HB.1.cell (World.block_lt_of_cell? w _ gE)).trans gE),((HB.1.cell (World.block_lt_of_cell? w _ gD)).trans gD),((HB.1.cell (World.block_lt_of_cell? w _ gC)).trans gC),((HB.1.cell (World.block_lt_of_cell? w _ gB)).trans gB),((HB.1.cell (World.block_lt_of_cell? w _ gA)).trans gA)⟩ (fun hHeld=>?_);refine je cq.ad2 cq.WV (fun eU u9=>?_);generalize w29.drew=w30 at dw e7 HB ox oy oz oA oB hHeld⊢;refine dd (i:=0) (N:=some 21) (v:= ?_) (a':= ?_) #[true,false,false,false,false,false,false,false,false] rfl rfl (cv eU.1 (by kernel_rfl)) (fun _ _ _ h=>h) (Or.inl ⟨by rfl,?_⟩) ?_ ?_;rotate_left
    ·intro w'
     go_simp
     with_reducible rfl
    rotate_left
    ·simp only[Act.put,List.setIfInBounds_toArray,List.set_cons_zero,List.set_cons_succ,bp,bF];rfl
    refine dd (i:=1) (N:=some 22) (v:= ?_) (a':= ?_) #[true,true,false,false,false,false,false,false,false] rfl rfl (cv eU.1 (by kernel_rfl)) (fun _ _ _ h=>h) (Or.inl ⟨by rfl,?_⟩) ?_ ?_;rotate_left
    ·intro w'
     go_simp
     with_reducible rfl
    rotate_left
    ·simp only[Act.put,List.setIfInBounds_toArray,List.set_cons_zero,List.set_cons_succ,bp,bF];rfl
    refine dd (i:=2) (N:=some 23) (v:= ?_) (a':= ?_) #[true,true,true,false,false,false,false,false,false] rfl rfl (cv eU.1 (by kernel_rfl)) (fun _ _ _ h=>h) (Or.inl ⟨by rfl,?_⟩) ?_ ?_;rotate_left
    ·intro w'
     go_simp
     with_reducible rfl
    rotate_left
    ·simp only[Act.put,List.setIfInBounds_toArray,List.set_cons_zero,List.set_cons_succ,bp,bF];rfl
    refine dd (i:=3) (N:=some 24) (v:= ?_) (a':= ?_) #[true,true,true,true,false,false,false,false,false] rfl rfl (cv eU.1 (by kernel_rfl)) (fun _ _ _ h=>h) (Or.inl ⟨by rfl,?_⟩) ?_ ?_;rotate_left
    ·intro w'
     go_simp
     with_reducible rfl
    rotate_left
    ·simp only[Act.put,List.setIfInBounds_toArray,List.set_cons_zero,List.set_cons_succ,bp,bF];rfl
    refine dd (i:=5) (N:=some 26) (v:= ?_) (a':= ?_) #[true,true,true,true,false,true,false,false,false] rfl rfl (cv eU.1 (by kernel_rfl)) (fun _ _ _ h=>h) (Or.inl ⟨by rfl,?_⟩) ?_ ?_;rotate_left
    ·intro w'
     go_simp
     with_reducible rfl
    rotate_left
    ·simp only[Act.put,List.setIfInBounds_toArray,List.set_cons_zero,List.set_cons_succ,bp,bF];rfl
    refine ke (i:=4) (N:=some 25) (v:= ?_) (a':= ?_) #[true,true,true,true,true,true,false,false,false] rfl rfl (fx eU.1 u9.1 (by kernel_rfl)) (fun _ _ _ h=>h) (Or.inl ⟨by rfl,?_⟩) hHeld ?_ ?_;rotate_left
    ·rintro w' ⟨s0,s1,s2,s3,s4⟩
     go_simp
     with_reducible rfl
    rotate_left
    ·simp only[Act.put,List.setIfInBounds_toArray,List.set_cons_zero,List.set_cons_succ,bp,bF];rfl
    refine qB (i:=6) (N:=none) #[true,true,true,true,true,true,true,false,false] rfl rfl (fR eU.1 (by kernel_rfl)) (by decide) (fun K hK=>?_);have atu:w30.cell? ⟨gZ,1,none⟩=some (.bool gH):=cL dw 1;have apO:=fZ dw;have aiA:=ik.1;have aiB:=dX.1;refine xC ?_;refine hK.out _ _ ⟨((cell_far (p:=⟨gZ,_,none⟩) (by first|exact Nat.ne_of_lt (Nat.lt_of_lt_of_le (by have:=World.block_lt_of_cell? _ _ gE;first|rwa [av] at this|exact this) cO.1)|(rw[av];exact Nat.ne_of_lt (Nat.lt_of_lt_of_le (by have:=World.block_lt_of_cell? _ _ gE;first|rwa [av] at this|exact this) cO.1))|(show(Addr.add _ _).block≠_;rw[av];exact Nat.ne_of_lt (Nat.lt_of_lt_of_le (by have:=World.block_lt_of_cell? _ _ gE;first|rwa [av] at this|exact this) cO.1))|(dsimp only;exact Nat.ne_of_lt (Nat.lt_of_lt_of_le (by have:=World.block_lt_of_cell? _ _ gE;first|rwa [av] at this|exact this) cO.1))) _).trans (hHeld.1)),((cell_far (p:=⟨gZ,_,none⟩) (by first|exact Nat.ne_of_lt (Nat.lt_of_lt_of_le (by have:=World.block_lt_of_cell? _ _ gD;first|rwa [av] at this|exact this) cO.1)|(rw[av];exact Nat.ne_of_lt (Nat.lt_of_lt_of_le (by have:=World.block_lt_of_cell? _ _ gD;first|rwa [av] at this|exact this) cO.1))|(show(Addr.add _ _).block≠_;rw[av];exact Nat.ne_of_lt (Nat.lt_of_lt_of_le (by have:=World.block_lt_of_cell? _ _ gD;first|rwa [av] at this|exact this) cO.1))|(dsimp only;exact Nat.ne_of_lt (Nat.lt_of_lt_of_le (by have:=World.block_lt_of_cell? _ _ gD;first|rwa [av] at this|exact this) cO.1))) _).trans (hHeld.2.1)),((cell_far (p:=⟨gZ,_,none⟩) (by first|exact Nat.ne_of_lt (Nat.lt_of_lt_of_le (by have:=World.block_lt_of_cell? _ _ gC;first|rwa [av] at this|exact this) cO.1)|(rw[av];exact Nat.ne_of_lt (Nat.lt_of_lt_of_le (by have:=World.block_lt_of_cell? _ _ gC;first|rwa [av] at this|exact this) cO.1))|(show(Addr.add _ _).block≠_;rw[av];exact Nat.ne_of_lt (Nat.lt_of_lt_of_le (by have:=World.block_lt_of_cell? _ _ gC;first|rwa [av] at this|exact this) cO.1))|(dsimp only;exact Nat.ne_of_lt (Nat.lt_of_lt_of_le (by have:=World.block_lt_of_cell? _ _ gC;first|rwa [av] at this|exact this) cO.1))) _).trans (hHeld.2.2.1)),((cell_far (p:=⟨gZ,_,none⟩) (by first|exact Nat.ne_of_lt (Nat.lt_of_lt_of_le (by have:=World.block_lt_of_cell? _ _ gB;first|rwa [av] at this|exact this) cO.1)|(rw[av];exact Nat.ne_of_lt (Nat.lt_of_lt_of_le (by have:=World.block_lt_of_cell? _ _ gB;first|rwa [av] at this|exact this) cO.1))|(show(Addr.add _ _).block≠_;rw[av];exact Nat.ne_of_lt (Nat.lt_of_lt_of_le (by have:=World.block_lt_of_cell? _ _ gB;first|rwa [av] at this|exact this) cO.1))|(dsimp only;exact Nat.ne_of_lt (Nat.lt_of_lt_of_le (by have:=World.block_lt_of_cell? _ _ gB;first|rwa [av] at this|exact this) cO.1))) _).trans (hHeld.2.2.2.1)),((cell_far (p:=⟨gZ,_,none⟩) (by first|exact Nat.ne_of_lt (Nat.lt_of_lt_of_le (by have:=World.block_lt_of_cell? _ _ gA;first|rwa [av] at this|exact this) cO.1)|(rw[av];exact Nat.ne_of_lt (Nat.lt_of_lt_of_le (by have:=World.block_lt_of_cell? _ _ gA;first|rwa [av] at this|exact this) cO.1))|(show(Addr.add _ _).block≠_;rw[av];exact Nat.ne_of_lt (Nat.lt_of_lt_of_le (by have:=World.block_lt_of_cell? _ _ gA;first|rwa [av] at this|exact this) cO.1))|(dsimp only;exact Nat.ne_of_lt (Nat.lt_of_lt_of_le (by have:=World.block_lt_of_cell? _ _ gA;first|rwa [av] at this|exact this) cO.1))) _).trans (hHeld.2.2.2.2))⟩ (fun hHeld=>?_);clear hK K;refine dd (i:=7) (N:=some 27) (v:= ?_) (a':= ?_) #[true,true,true,true,true,true,true,true,false] rfl rfl (cv eU.1 (by kernel_rfl)) (fun _ _ _ h=>h) (Or.inl ⟨by rfl,?_⟩) ?_ ?_;rotate_left
    ·intro w'
     go_simp
     with_reducible rfl
    rotate_left
    ·simp only[Act.put,List.setIfInBounds_toArray,List.set_cons_zero,List.set_cons_succ,bp,bF];rfl
    refine qB (i:=8) (N:=none) #[true,true,true,true,true,true,true,true,true] rfl rfl (fR eU.1 (by kernel_rfl)) (by decide) (fun K hK=>?_);have atv:w30.cell? ⟨gZ,0,none⟩=some (.int .i64 dO):=cL dw 0;have apP:=fZ dw;have aiC:=ik.1;have aiD:=dX.1;refine xC ?_;refine hK.out _ _ ⟨((cell_far (p:=⟨gZ,_,none⟩) (by first|exact Nat.ne_of_lt (Nat.lt_of_lt_of_le (by have:=World.block_lt_of_cell? _ _ gE;first|rwa [av] at this|exact this) cO.1)|(rw[av];exact Nat.ne_of_lt (Nat.lt_of_lt_of_le (by have:=World.block_lt_of_cell? _ _ gE;first|rwa [av] at this|exact this) cO.1))|(show(Addr.add _ _).block≠_;rw[av];exact Nat.ne_of_lt (Nat.lt_of_lt_of_le (by have:=World.block_lt_of_cell? _ _ gE;first|rwa [av] at this|exact this) cO.1))|(dsimp only;exact Nat.ne_of_lt (Nat.lt_of_lt_of_le (by have:=World.block_lt_of_cell? _ _ gE;first|rwa [av] at this|exact this) cO.1))) _).trans (hHeld.1)),((cell_far (p:=⟨gZ,_,none⟩) (by first|exact Nat.ne_of_lt (Nat.lt_of_lt_of_le (by have:=World.block_lt_of_cell? _ _ gD;first|rwa [av] at this|exact this) cO.1)|(rw[av];exact Nat.ne_of_lt (Nat.lt_of_lt_of_le (by have:=World.block_lt_of_cell? _ _ gD;first|rwa [av] at this|exact this) cO.1))|(show(Addr.add _ _).block≠_;rw[av];exact Nat.ne_of_lt (Nat.lt_of_lt_of_le (by have:=World.block_lt_of_cell? _ _ gD;first|rwa [av] at this|exact this) cO.1))|(dsimp only;exact Nat.ne_of_lt (Nat.lt_of_lt_of_le (by have:=World.block_lt_of_cell? _ _ gD;first|rwa [av] at this|exact this) cO.1))) _).trans (hHeld.2.1)),((cell_far (p:=⟨gZ,_,none⟩) (by first|exact Nat.ne_of_lt (Nat.lt_of_lt_of_le (by have:=World.block_lt_of_cell? _ _ gC;first|rwa [av] at this|exact this) cO.1)|(rw[av];exact Nat.ne_of_lt (Nat.lt_of_lt_of_le (by have:=World.block_lt_of_cell? _ _ gC;first|rwa [av] at this|exact this) cO.1))|(show(Addr.add _ _).block≠_;rw[av];exact Nat.ne_of_lt (Nat.lt_of_lt_of_le (by have:=World.block_lt_of_cell? _ _ gC;first|rwa [av] at this|exact this) cO.1))|(dsimp only;exact Nat.ne_of_lt (Nat.lt_of_lt_of_le (by have:=World.block_lt_of_cell? _ _ gC;first|rwa [av] at this|exact this) cO.1))) _).trans (hHeld.2.2.1)),((cell_far (p:=⟨gZ,_,none⟩) (by first|exact Nat.ne_of_lt (Nat.lt_of_lt_of_le (by have:=World.block_lt_of_cell? _ _ gB;first|rwa [av] at this|exact this) cO.1)|(rw[av];exact Nat.ne_of_lt (Nat.lt_of_lt_of_le (by have:=World.block_lt_of_cell? _ _ gB;first|rwa [av] at this|exact this) cO.1))|(show(Addr.add _ _).block≠_;rw[av];exact Nat.ne_of_lt (Nat.lt_of_lt_of_le (by have:=World.block_lt_of_cell? _ _ gB;first|rwa [av] at this|exact this) cO.1))|(dsimp only;exact Nat.ne_of_lt (Nat.lt_of_lt_of_le (by have:=World.block_lt_of_cell? _ _ gB;first|rwa [av] at this|exact this) cO.1))) _).trans (hHeld.2.2.2.1)),((cell_far (p:=⟨gZ,_,none⟩) (by first|exact Nat.ne_of_lt (Nat.lt_of_lt_of_le (by have:=World.block_lt_of_cell? _ _ gA;first|rwa [av] at this|exact this) cO.1)|(rw[av];exact Nat.ne_of_lt (Nat.lt_of_lt_of_le (by have:=World.block_lt_of_cell? _ _ gA;first|rwa [av] at this|exact this) cO.1))|(show(Addr.add _ _).block≠_;rw[av];exact Nat.ne_of_lt (Nat.lt_of_lt_of_le (by have:=World.block_lt_of_cell? _ _ gA;first|rwa [av] at this|exact this) cO.1))|(dsimp only;exact Nat.ne_of_lt (Nat.lt_of_lt_of_le (by have:=World.block_lt_of_cell? _ _ gA;first|rwa [av] at this|exact this) cO.1))) _).trans (hHeld.2.2.2.2))⟩ (fun hHeld=>?_);clear hK K;refine gF (mc eU.1 (by kernel_rfl)) ?_;have apQ:=dX.1;have apR:=ik.1;obtain⟨aiE,aiF⟩:=cf dw
    try go_wp2_with((with_reducible refine gc 78 ?_);refine gl 29 Tryz.func78 #[.agg #[.int .i64 ((aM l0 t271).f0),.bool true,.bool o8,.int .i64 ig,.int .i64 ij]] ?_;(with_reducible refine(dR.calls k ((aM l0 t271).f0) true o8 ig ij false _ A9.1).mono ?_);rintro e w35 ⟨rfl,hb⟩;refine⟨_,rfl,?_⟩;replace dw:=pb dw hb;replace e7:=qk e7 hb;replace HB:=qb hb;clear hb;obtain⟨Ef,Eg⟩:=cf e7)
    refine bodyPost_ret (ek (rs:=[.tmp 4,.cell 5 32,.tmp 6]) rfl (by simp) (.tmp (.cell mg 32 #[.int .i64 0,.int .i64 0] (0,0) _ rfl pk Tryz.underlying32 rfl (by kernel_rfl) (.tmp .nil)))) rfl ?_;exact⟨_,re,kn,bl⟩
  ·obtain⟨rfl,rfl,rfl,rfl⟩:=s4 H;go_enter Tryz.func148,Tryz.ntmps148
   go_wp2_with(first|((with_reducible refine gd 3 ?_);refine bY 43 #[.int .i64 dO,.bool gH,.bool o8,.int .i64 ig,.int .i64 ij] fun gZ w37 dw cO HB=>?_)|((with_reducible refine gd 5 ?_);refine bX 32 #[.int .i64 0,.int .i64 0] fun mg w38 e7 PX HB hg hb=>?_;obtain⟨dX,ik⟩:=nn dw hg;replace dw:=qk dw hb;clear hb hg)|((with_reducible refine gc 40 ?_);refine gl 10 Tryz.func40 #[.slice A0 l0.length c0] ?_;(with_reducible refine(bW.calls k _ _ l0 true _ (cu jb) uj.1 A3.1).mono ?_);rintro e w39 ⟨rfl,hb⟩;refine⟨_,rfl,?_⟩;replace dw:=qk dw hb;replace e7:=qk e7 hb;replace HB:=qb hb;clear hb)|((with_reducible refine gc 65 ?_);refine gl 15 Tryz.func65 #[.slice A0 l0.length c0] ?_;(with_reducible refine(cm.calls k _ _ l0 t271 false _ (cu jb) uj.1 A5.1).mono ?_);rintro e w40 ⟨rfl,hb⟩;refine⟨_,rfl,?_⟩;replace dw:=qk dw hb;replace e7:=qk e7 hb;replace HB:=qb hb;clear hb;have apU:=ik.1;have apV:=dX.1;obtain⟨aiG,aiH⟩:=cf e7))
   refine bodyPost_ret (ek (rs:=[.tmp 4,.cell 5 32,.tmp 6]) rfl (by simp) (.tmp (.cell mg 32 #[.int .i64 0,.int .i64 0] (0,0) _ rfl pk Tryz.underlying32 rfl (by kernel_rfl) (.tmp .nil)))) rfl ?_;exact⟨_,re,kn,bl⟩
 ·obtain⟨rfl,rfl,rfl,rfl⟩:=s4 H;go_enter Tryz.func148,Tryz.ntmps148
  go_wp2_with(first|((with_reducible refine gd 3 ?_);refine bY 43 #[.int .i64 dO,.bool gH,.bool o8,.int .i64 ig,.int .i64 ij] fun gZ w43 dw cO HB=>?_)|((with_reducible refine gd 5 ?_);refine bX 32 #[.int .i64 0,.int .i64 0] fun mg w44 e7 PX HB hg hb=>?_;obtain⟨dX,ik⟩:=nn dw hg;replace dw:=qk dw hb;clear hb hg)|((with_reducible refine gc 40 ?_);refine gl 10 Tryz.func40 #[.slice A0 l0.length c0] ?_;(with_reducible refine(bW.calls k _ _ l0 false _ (cu jb) uj.1 A3.1).mono ?_);rintro e w45 ⟨rfl,hb⟩;refine⟨_,rfl,?_⟩;replace dw:=qk dw hb;replace e7:=qk e7 hb;replace HB:=qb hb;clear hb;have apW:=ik.1;have apX:=dX.1;obtain⟨aiI,aiJ⟩:=cf e7))
  refine bodyPost_ret (ek (rs:=[.tmp 4,.cell 5 32,.tmp 6]) rfl (by simp) (.tmp (.cell mg 32 #[.int .i64 0,.int .i64 0] (0,0) _ rfl pk Tryz.underlying32 rfl (by kernel_rfl) (.tmp .nil)))) rfl ?_;exact⟨_,re,kn,bl⟩
end Go.Proofs.YtmhdcgmfbjcndaaGreatDoor.P
