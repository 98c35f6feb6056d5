import Derived.Test.YtmhdcgmfbjcndaaGreatDoorB36
import Derived.BigRegionIn
import Derived.OrdersIn
set_option linter.unusedVariables false
set_option linter.unusedSimpArgs false
set_option maxRecDepth 100000
set_option maxHeartbeats 8000000
namespace Go.Proofs.YtmhdcgmfbjcndaaGreatDoor.P
open Go.RowKit Go.Proofs.aa.ag Go.Proofs.aa.ao Go.Proofs.aa.ay
attribute [local go_sem↓] Go.wp_at_zero Go.wp_at_succ
abbrev Ym(A6:Option Addr)(c6:Nat)(A7:Option Addr)(c7:Nat)(A8:Option Addr)(c8 go:Nat):Array Value:= #[.int .i64 2,.int .i64 4,.int .i64 2,.int .i64 60,.int .i64 2,.int .i64 2,.slice A6 4 c6,.slice A7 2 c7,.slice A8 4 c8,.int .i64 1,.int .i64 2,.int .i64 60,.int .i64 122,.int .i64 123,.int .i64 125,.int .i64 126,.int .i64 152,.int .i64 160,.slice (some ⟨go,0,none⟩) 10240 10240]
def pO:List dJ:=[⟨⟨#[]⟩,⟨0,0⟩⟩,⟨⟨#[]⟩,⟨0,0⟩⟩]
def Yn:List Int:=List.replicate 64 0
def uZ(L:List Int):List Int:=fc (fc (fc L 0 BU) 7872 OZ) 8000 Yn
theorem kv:OZ.length=128:=by decide+kernel
theorem rb1:eA.f 30 pO=some (Yn,0):=by decide+kernel
theorem Yo{α:Type}{d:Kd α}{e base go:Nat}{ok:Nat→Prop}{W W':World}{v:Value}{xs:List α}(h:d.R e W base ok v xs)(hg:go<base)(hb:j' go W W'):d.R e W' base ok v xs:=
 Kd.bJ (Kd.fQ (Kd.bJ (ok':=fun k=>ok k∧base≤k) (Kd.eH h) (fun k hk=>⟨hk.1,hk.2.1⟩)) (fun k hk cX=>hb.block k cX (by have:=hk.2;omega))) (fun k hk=>hk.1)
theorem IB(A6:Option Addr)(c6:Nat)(A7:Option Addr)(c7:Nat)(A8:Option Addr)(c8 gy go:Nat)(L:List Int)(hL:L.length=10240)(w:World)(hy:w.heap[gy]? =some (.cells (Ym A6 c6 A7 c7 A8 c8 go) 87 (0,0)))(hg:w.heap[go]? =some (cS L))
 (h6:Kd.C gW w A6 mG.length mG) (om:mG.length≤c6) (h7:Kd.C gQ w A7 pO.length pO) (lY:pO.length≤c7):
 Calls Tryz.prog 31 #[.pointer (some ⟨gy,0,none⟩)] w fun e w'=>e= .returned (.tuple #[])∧w'.heap[go]? =some (cS (uZ L))∧j' go w w':=by
 have DY:=ak hy;have DG:=ak hg;have H6:=ak h6;have H7:=ak h7;have Ti:=ak (show gy≠go from dQ hy hg (by decide));have LG:=ak (aN hg);obtain⟨W1,fI⟩:∃X,X=w.alloc (.cells #[.int .i64 2,.int .i64 4,.int .i64 2,.int .i64 60,.int .i64 2,.int .i64 2,.slice A6 4 c6,.slice A7 2 c7,.slice A8 4 c8] 28):=⟨_,rfl⟩;have HB:=ak (show Below w.heap.size w W1 by rw[fI];exact ab (Below.refl _ _) _);have D2:=ak (show W1.heap[w.heap.size]? =some (.cells #[.int .i64 2,.int .i64 4,.int .i64 2,.int .i64 60,.int .i64 2,.int .i64 2,.slice A6 4 c6,.slice A7 2 c7,.slice A8 4 c8] 28 (0,0)) by rw[fI];exact aI w _);have xo:=ak fI;have ly:=aN hy;have y0:=cL DY;clear fI hy hg h6 h7;go_enter Tryz.func31,Tryz.ntmps31
 go_wp2_with fail
 rw[←xo.1];clear y0 ly;replace DY:=ak (cK DY.1 HB.1);replace DG:=ak (cK DG.1 HB.1);refine(RL _).mono ?_;rintro e w2 ⟨v1,rfl,sM,hb⟩;have R1:=ak (Kd.bO sM (aq HB.1));replace DY:=kb DY hb;replace DG:=kb DG hb;replace D2:=kb D2 hb;replace HB:=sb HB hb;clear sM hb;have d6:=cL D2
 go_wp2_with fail
 refine(IA A6 c6 _ (Kd.aj H6.1 HB.1) om).mono ?_;rintro e w3 ⟨g3,rfl,BF,pL,hb⟩;replace R1:=Rb R1 hb;have D3:=ak pL;have L3:=ak (Nat.le_trans HB.1.size BF);replace DY:=kb DY hb;replace DG:=kb DG hb;replace D2:=kb D2 hb;replace HB:=sb HB hb;clear BF pL hb d6;have d7:=cL D2
 go_wp2_with fail
 refine(eA.calls 30 A7 c7 pO Yn 0 _ (Kd.aj H7.1 HB.1) lY rb1).mono ?_;rintro e w4 ⟨v4,rfl,hr4,hb⟩;replace R1:=Rb R1 hb;have R4:=ak (Kd.bO hr4 (aq HB.1));replace D3:=kb D3 hb;replace DY:=kb DY hb;replace DG:=kb DG hb;replace D2:=kb D2 hb;replace HB:=sb HB hb;clear hr4 hb d7;obtain⟨B1,k1,rfl⟩:=Kd.bm R1.1;obtain⟨B4,k4,rfl⟩:=Kd.bm R4.1
 go_wp2_with fail
 refine(pD gy go _ 0 10240 10240 k1 L BU B1 _ DY.1 rfl DG.1 (Kd.aW R1.1).2.2 hL (by decide) (by rw[fF];decide) (by decide) (by decide)).mono ?_;rintro e w5 ⟨rfl,Bo,ud⟩;replace DG:=ak Bo;replace DY:=ak (j'.eS ud DY.1 Ti.1);replace D3:=ak (j'.eS ud D3.1 (by have:=L3.1;have:=LG.1;omega));replace R4:=ak (Yo R4.1 LG.1 ud);have HT:=ak (j'.trans (j'.fV HB.1) ud);have y13:=cL DY;clear Bo ud D2 HB R1
 go_wp2_with fail
 refine(pD gy go _ 123 10240 10240 128 _ OZ (some ⟨g3,0,none⟩) _ DY.1 rfl DG.1 (Iy D3.1 (by rw[kv];decide)) (by rw[ed (by rw[fF,hL];decide)];exact hL) (by decide) (by rw[kv];decide) (by decide) (by decide)).mono ?_;rintro e w6 ⟨rfl,O0,mz⟩;replace DG:=ak O0;replace DY:=ak (j'.eS mz DY.1 Ti.1);replace R4:=ak (Yo R4.1 LG.1 mz);replace HT:=ak (j'.trans HT.1 mz);clear O0 mz y13 D3;have y14:=cL DY
 go_wp2_with fail
 refine(pD gy go _ 125 10240 10240 k4 _ Yn B4 _ DY.1 rfl DG.1 (Kd.aW R4.1).2.2 (by rw[ed (by rw[kv,ed (by rw[fF,hL];decide),hL];decide),ed (by rw[fF,hL];decide)];exact hL) (by decide) (by decide) (by decide) (by decide)).mono ?_;rintro e w7 ⟨rfl,pB,Kr⟩;have HG7:=ak pB;replace HT:=ak (j'.trans HT.1 Kr);clear pB Kr;go_wp2
 go_end0
 exact⟨rfl,HG7.1,HT.1⟩
theorem RY(A:Option Addr)(c:Nat)(w:World):Calls Tryz.prog 107 #[.slice A 0 c] w fun e w'=>e= .returned (.slice none 0 0)∧w=w':=by
 go_enter Tryz.func107,Tryz.ntmps107;go_wp2;refine wp_loop_rounds 1 ?_;rw[rounds_succ];go_wp2;go_ret;exact⟨rfl,rfl⟩
theorem agL{α:Type}(d:Kd α)(w:World)(A:Option Addr):Kd.C d w A ([]:List α).length []:=⟨rfl,by simp,fun h=>absurd h (by simp)⟩
theorem VI(A:Option Addr)(c:Nat)(w:World):Calls Tryz.prog 105 #[.int .i64 64,.int .i64 64,.slice A 0 c,.slice none 0 0] w fun e w'=>e= .returned (.bool true)∧Below w.heap.size w w':=by
 go_enter Tryz.func105,Tryz.ntmps105
 go_wp2_with fail
 refine(RY A c _).mono ?_;rintro e w1 ⟨rfl,rfl⟩
 go_wp2_with fail
 refine(lG.calls 64 64 none 0 [] true _ (agL _ _ _) (Nat.le_refl _) (by decide+kernel)).mono ?_;rintro e w2 ⟨rfl,hb⟩;have HB:=ak hb;clear hb;go_wp2;refine wp_loop_rounds 1 ?_;rw[rounds_succ];go_wp2;go_ret;exact⟨rfl,ab HB.1 _⟩
theorem VJ(A:Option Addr)(c:Nat)(w:World):Calls Tryz.prog 108 #[.slice A 0 c] w fun e w'=>∃g h:Nat,e= .returned (.tuple #[.slice (some ⟨g,0,none⟩) 0 0,.slice (some ⟨h,0,none⟩) 7 7])∧w.heap.size≤h∧w'.heap[h]? =some (.cells (nums .i64 (List.replicate 7 0)).toArray 3 (0,0))∧Below w.heap.size w w':=by
 have hm1:∀w,(Instr.makeSlice 192 (.int .i64 0) (.int .i64 0)).run Tryz.prog w= .ok (.slice (some ⟨w.heap.size,0,none⟩) 0 0) (w.alloc (.cells #[] 197)):=fun _=>by kernel_rfl
 have hm2:∀w,(Instr.makeSlice 68 (.int .i64 7) (.int .i64 7)).run Tryz.prog w= .ok (.slice (some ⟨w.heap.size,0,none⟩) 7 7) (w.alloc (.cells (nums .i64 (List.replicate 7 0)).toArray 3)):=fun _=>by kernel_rfl
 go_enter Tryz.func108,Tryz.ntmps108;go_wp2;refine wp_loop_rounds 1 ?_;rw[rounds_succ];go_wp2;go_ret2;exact⟨_,_,rfl,by simp,(k5 w _ _ _ _ rfl).2.1,ab (ab (ab (Below.refl _ _) _) _) _⟩
theorem abr(A:Option Addr)(c:Nat)(w:World):Calls Tryz.prog 64 #[.int .i64 64,.int .i64 64,.slice A 0 c,.slice none 0 0] w fun e w'=>∃g h:Nat,e= .returned (.tuple #[.slice (some ⟨g,0,none⟩) 0 0,.slice (some ⟨h,0,none⟩) 7 7,.int .i64 0])∧w.heap.size≤h∧w'.heap[h]? =some (.cells (nums .i64 (List.replicate 7 0)).toArray 3 (0,0))∧Below w.heap.size w w':=by
 have hm1:∀w,(Instr.makeSlice 33 (.int .i64 0) (.int .i64 0)).run Tryz.prog w= .ok (.slice (some ⟨w.heap.size,0,none⟩) 0 0) (w.alloc (.cells #[] 5)):=fun _=>by kernel_rfl
 go_enter Tryz.func64,Tryz.ntmps64
 go_wp2_with fail
 refine(VI A c _).mono ?_;rintro e w1 ⟨rfl,hb⟩;have HB:=ak hb;clear hb
 go_wp2_with fail
 refine(RY A c _).mono ?_;rintro e w2 ⟨rfl,rfl⟩
 go_wp2_with fail
 refine(mJ.calls 64 64 none 0 [] [] 0 _ (agL _ _ _) (Nat.le_refl _) (by kernel_rfl)).mono ?_;rintro e w3 ⟨v3,rfl,hr,hb⟩;obtain⟨B3,c3,rfl⟩:=Kd.bm hr;replace HB:=sb HB hb;clear hr hb
 go_wp2_with fail
 refine(VJ B3 c3 _).mono ?_;rintro e w4 ⟨g,h,rfl,hh,FR,hb⟩;have HH:=ak (Nat.le_trans HB.1.size hh);have HHB:=ak FR;replace HB:=sb HB hb;clear hh FR hb;go_wp2;refine wp_loop_rounds 1 ?_;rw[rounds_succ];go_wp2;refine wp_loop_rounds 1 ?_;rw[rounds_succ];go_wp2
 go_ret3
 exact⟨_,h,rfl,HH.1,ar HHB.1 _,ab HB.1 _⟩
theorem VK{W:World}{g base:Nat}{x:Int}(h:W.heap[g]? =some (.cells (nums .i64 [x,0,0,0,0,0,0,0]).toArray 3 (0,0)))(hb:base≤g):Kd.R (Kd.int .i64) 3 W base (fun _=>True) (.slice (some ⟨g,0,none⟩) 1 8) [x]:=by
 refine⟨fun _ _=>trivial,[.int .i64 x],⟨rfl,.inr ⟨g,8,_,rfl,hb,h,(show 1≤8 by decide),by unfold maxLen;decide,rfl,rfl⟩⟩,rfl,fun j p hj=>?_⟩
 match j,hj with
 |0,hj=>
  injection hj with hj
  subst hj;rfl
 |j+1,hj=>simp at hj
def agM:List Int:=[2,0,0,0,0,0,0,0]
def kC:List Int:=agM.flatMap w8
theorem Fp:kC.length=64:=by decide+kernel
def rK:List (List Int):=[List.replicate 300 0,[],[],[]]
theorem agN:dg.f 20 2 4 2 60 2 2 mG pO rK=some []:=by kernel_rfl
theorem agO:cm.f 10 mG=some (1,true):=by decide+kernel
theorem Ox(A6:Option Addr)(c6:Nat)(A7:Option Addr)(c7:Nat)(A8:Option Addr)(c8 gy go:Nat)(L:List Int)(hL:L.length=10240)(w:World)(hy:w.heap[gy]? =some (.cells (Ym A6 c6 A7 c7 A8 c8 go) 87 (0,0)))(hg:w.heap[go]? =some (cS L))
 (h6:Kd.C gW w A6 mG.length mG) (om:mG.length≤c6) (h7:Kd.C gQ w A7 pO.length pO) (lY:pO.length≤c7) (h8:Kd.C (Kd.slice 5 (Kd.int .u8)) w A8 rK.length rK) (nT:rK.length≤c8):
 Calls Tryz.prog 32 #[.pointer (some ⟨gy,0,none⟩)] w fun e w'=>e= .returned (.tuple #[])∧w'.heap[go]? =some (cS (fc L 7808 kC))∧j' go w w':=by
 have Nw:∀w,(Instr.makeSlice 68 (.int .i64 1) (.int .i64 8)).run Tryz.prog w= .ok (.slice (some ⟨w.heap.size,0,none⟩) 1 8) (w.alloc (.cells (nums .i64 [0,0,0,0,0,0,0,0]).toArray 3)):=fun _=>by kernel_rfl
 have DY:=ak hy;have DG:=ak hg;have H6:=ak h6;have H7:=ak h7;have H8:=ak h8;have Ti:=ak (show gy≠go from dQ hy hg (by decide));have LG:=ak (aN hg);obtain⟨W1,fI⟩:∃X,X=w.alloc (.cells #[.int .i64 2,.int .i64 4,.int .i64 2,.int .i64 60,.int .i64 2,.int .i64 2,.slice A6 4 c6,.slice A7 2 c7,.slice A8 4 c8] 28):=⟨_,rfl⟩;have HB:=ak (show Below w.heap.size w W1 by rw[fI];exact ab (Below.refl _ _) _);have D2:=ak (show W1.heap[w.heap.size]? =some (.cells #[.int .i64 2,.int .i64 4,.int .i64 2,.int .i64 60,.int .i64 2,.int .i64 2,.slice A6 4 c6,.slice A7 2 c7,.slice A8 4 c8] 28 (0,0)) by rw[fI];exact aI w _);have xo:=ak fI;have ly:=aN hy;have y0:=cL DY;clear fI hy hg h6 h7 h8;go_enter Tryz.func32,Tryz.ntmps32
 go_wp2_with fail
 rw[←xo.1];clear y0 ly;replace DY:=ak (cK DY.1 HB.1);replace DG:=ak (cK DG.1 HB.1);refine(dg.calls 20 2 4 2 60 2 2 A6 c6 mG A7 c7 pO A8 c8 rK [] _ (Kd.aj H6.1 HB.1) om (Kd.aj H7.1 HB.1) lY (Kd.aj H8.1 HB.1) nT agN).mono ?_;rintro e w2 ⟨v2,rfl,hr,hb⟩;obtain⟨B2,k2,rfl⟩:=Kd.bm hr;replace DY:=kb DY hb;replace DG:=kb DG hb;replace D2:=kb D2 hb;replace HB:=sb HB hb;clear hr hb;go_wp2;refine wp_loop_rounds 1 ?_;rw[rounds_succ];have d0:=cL D2 0;have d1:=cL D2 1;have d2:=cL D2 2;have d3:=cL D2 3;have d4:=cL D2 4;have d5:=cL D2 5;have d6:=cL D2 6;have d7:=cL D2 7;have d8:=cL D2 8
 go_wp2_with fail
 refine(abr B2 k2 _).mono ?_;rintro e w3 ⟨g3,h3,rfl,Yp,FR,hb⟩;have DH:=ak FR;have LH:=ak (Nat.le_trans HB.1.size Yp);have LHK:=ak (aN FR);replace DY:=kb DY hb;replace DG:=kb DG hb;replace D2:=kb D2 hb;replace HB:=sb HB hb;clear Yp FR hb d0 d1 d2 d3 d4 d5 d6 d7 d8;have d6:=cL D2 6;have ld:=aN D2.1
 go_wp2_with fail
 obtain⟨W4,Cu⟩:∃X,X=w3.alloc (.cells (nums .i64 [0,0,0,0,0,0,0,0]).toArray 3):=⟨_,rfl⟩;rw[←Cu];have hb:Below w3.heap.size w3 W4:=by rw[Cu];exact ab (Below.refl _ _) _
 have DK:=ak (show W4.heap[w3.heap.size]? =some (.cells (nums .i64 [0,0,0,0,0,0,0,0]).toArray 3 (0,0)) by rw[Cu];exact aI w3 _);have LK:=ak (show w.heap.size≤w3.heap.size from HB.1.size);clear Cu d6 ld Nw;replace DY:=kb DY hb;replace DG:=kb DG hb;replace D2:=kb D2 hb;replace HB:=sb HB hb;replace DH:=kb DH hb;clear hb;refine(cm.calls 10 A6 c6 mG 1 true _ (Kd.aj H6.1 HB.1) om agO).mono ?_;rintro e w5 ⟨rfl,hb⟩;replace DH:=kb DH hb;replace DK:=kb DK hb;replace DY:=kb DY hb;replace DG:=kb DG hb;replace D2:=kb D2 hb;replace HB:=sb HB hb;have N1:=ak (show h3<w3.heap.size from LHK.1);clear hb;have q0:=cL DK;have qf:=fZ DK;obtain⟨V,hV⟩:∃X,X=w5.setCell ⟨w3.heap.size,0,none⟩ (.int .i64 2):=⟨_,rfl⟩;have EB:=ak (show Below w.heap.size w V by rw[hV];exact aH HB.1 LK.1);have EK:=pA hV DK;have EH:=ak (show V.heap[h3]? =some (.cells (nums .i64 (List.replicate 7 0)).toArray 3 (0,0)) by rw[hV];exact aJ DH.1 (p:=⟨w3.heap.size,0,none⟩) (Nat.ne_of_lt N1.1) _);have EY:=ak (show V.heap[gy]? =some (.cells (Ym A6 c6 A7 c7 A8 c8 go) 87 (0,0)) from by rw[hV];exact aJ DY.1 (p:=⟨w3.heap.size,0,none⟩) (dQ DY.1 DK.1 (by decide)) _);have EG:=ak (show V.heap[go]? =some (cS L) from by rw[hV];exact aJ DG.1 (p:=⟨w3.heap.size,0,none⟩) (dQ DG.1 DK.1 (by decide)) _);have E2:=ak (show V.heap[w.heap.size]? =some (.cells #[.int .i64 2,.int .i64 4,.int .i64 2,.int .i64 60,.int .i64 2,.int .i64 2,.slice A6 4 c6,.slice A7 2 c7,.slice A8 4 c8] 28 (0,0)) from by rw[hV];exact aJ D2.1 (p:=⟨w3.heap.size,0,none⟩) (dQ D2.1 DK.1 (by decide)) _);have HV:=ak hV;clear hV DK DH DY DG D2 HB
 go_wp2_with((with_reducible refine ma (N:=69) rfl ?_);rw[←HV.1];refine Kd.ep (Kd.int .i64) (Rr:=(Kd.int .i64).K V) w.heap.size rfl (.tmp 67) (.tmp 68) 68 3 (.int .i64 0) 8 rfl Tryz.underlying68 pT rfl (by decide) (by decide) _ [2] (List.replicate 7 0) (some ⟨h3,0,none⟩) 7 7 (fun _=>True) (fun _=>False) rfl rfl (VK EK.1 LK.1) (BG EH.1 (by decide)) (fun _ _ h=>h) (fun _ hk=>hk.elim) (fun _ _=>trivial) EB.1 (aq EB.1) (by decide) ?_;intro v6 w6 ho mz O0 dH;have FO:=ak ho;have FB:=ak mz;have FG6:=ak O0;clear ho mz O0 dH)
 have n1:=dQ EY.1 EK.1 (by decide);have n2:=dQ EG.1 EK.1 (by decide);have n3:=dQ E2.1 EK.1 (by decide);have FY:=ak (bo EY.1 FG6.1 (fun e=>n1 (Option.some.inj e)));have FG:=ak (bo EG.1 FG6.1 (fun e=>n2 (Option.some.inj e)));have F2:=ak (bo E2.1 FG6.1 (fun e=>n3 (Option.some.inj e)));clear n1 n2 n3 q0 qf EY EG E2 EK EH EB HV FG6;obtain⟨B6,k6,rfl⟩:=Kd.bm FO.1;have SR:=Kd.aW FO.1;refine(tJ B6 k6 agM _ SR.2.2 (by decide) (by decide)).mono ?_;rintro e w7 ⟨g7,rfl,pB,pL,hb⟩;have D7:=ak (show w7.heap[g7]? =some (cS kC) from pL);have L7:=ak (Nat.le_trans FB.1.size pB);replace FY:=kb FY hb;replace FG:=kb FG hb;replace F2:=kb F2 hb;replace FB:=sb FB hb;clear SR pB pL hb FO;have y12:=cL FY
 go_wp2_with fail
 refine(pD gy go _ 122 10240 10240 64 L kC (some ⟨g7,0,none⟩) _ FY.1 rfl FG.1 (Iy D7.1 (by rw[Fp];decide)) hL (by decide) (by rw[Fp];decide) (by decide) (by decide)).mono ?_;rintro e w8 ⟨rfl,sP,hb8⟩;replace FG:=ak sP;replace FY:=ak (j'.eS hb8 FY.1 Ti.1);replace F2:=ak (j'.eS hb8 F2.1 (ow LG));have HT:=ak (j'.trans (j'.fV FB.1) hb8);clear sP hb8 y12 D7 FB;have d5:=cL F2 5;have Ib:∀w,(Builtin.copy_ #[33,33] 3 #[.slice (some ⟨go,9728,none⟩) 0 0,.slice (some ⟨g3,0,none⟩) 0 0]).run Tryz.prog w= .ok (goInt 0) w:=fun w=>run_copy_none w 33 33 3 5 _ _ 0 0 0 0 Tryz.underlying33 (by kernel_rfl) rfl;go_wp2;go_quiet ((go_at_call 67;exact Calls.quiet_of ((BC gy go _ 152 10240 _ (cW FY.1 _) rfl rfl (by decide) (by decide) (by decide)).mono (fun _ _ h=>⟨h.1,h.2.1⟩))));go_wp2
 go_end0
 exact⟨rfl,FG.1,j'.trans HT.1 (j'.fV (cZ (Below.refl _ _) _))⟩
theorem Fq{W:World}{base size:Nat}{e:TypeId}{v:Value}{xs:List Value}(h:W.ownsRow base e size v 1 xs):∃(g cap:Nat)(cur:Array Value),v= .slice (some ⟨g,0,none⟩) 1 cap∧base≤g∧W.heap[g]? =some (.cells cur e (0,0))∧1≤cap∧∀(j:Nat)(u:Value),xs[j]? =some u→cur[j]? =some u:=by
 rcases h.2 with⟨_,h0⟩|⟨g,cap,cur,rfl,hb,hh,hc,_,_,ht⟩
 ·exact absurd h0 (by decide)
 ·refine⟨g,cap,cur,rfl,hb,hh,hc,fun j u hj=>?_⟩;rw[←ht,List.getElem?_take] at hj;split at hj
  ·simpa using hj
  ·cases hj
theorem VL:(Tryz.prog.info? 241).map (fun i=>(i.zero,i.size,i.bytes))=some (some (.agg #[.int .i64 0,.int .i64 0,.int .i64 0]),3,24):=by kernel_rfl
theorem abt(w:World):Calls Tryz.prog 156 #[.int .i64 6] w fun e w'=>e= .returned (.int .i64 2)∧w=w':=by
 go_enter Tryz.func156,Tryz.ntmps156;go_wp2;go_ret;exact⟨rfl,rfl⟩
def KD1:List Int:=[6,7]
theorem KS(A:Option Addr)(c:Nat)(w:World)(hC:Kd.C (Kd.int .i64) w A KD1.length KD1):
 Calls Tryz.prog 113 #[.slice A 2 c] w fun e w'=>∃(g cap:Nat)(cur:Array Value),e= .returned (.tuple #[.slice (some ⟨g,0,none⟩) 1 cap,.bool true])∧w.heap.size≤g∧w'.heap[g]? =some (.cells cur 241 (0,0))∧1≤cap∧cur[0]? =some (.int .i64 0)∧cur[1]? =some (.int .i64 2)∧cur[2]? =some (.int .i64 2)∧Below w.heap.size w w':=by
 have HC:=ak hC;obtain⟨ad,rfl,oe⟩:=atI hC 0 (by decide);obtain⟨ad',e',oq⟩:=atI hC 1 (by decide);cases e'
 have oe:w.cell? ad=some (.int .i64 6):=by
  rw[show ad.add 0=ad from by unfold Addr.add;split<;>simp_all] at oe;exact oe
 have oq:w.cell? ⟨ad.block,ad.off+1,none⟩=some (.int .i64 7):=by
  simp only[Addr.add] at oq;rw[if_neg (by decide)] at oq;exact oq
 clear hC;go_enter Tryz.func113,Tryz.ntmps113;go_wp2;refine wp_loop_rounds 3 ?_;rw[rounds_succ]
 go_wp2_with fail
 refine(abt _).mono ?_;rintro e w0 ⟨rfl,rfl⟩
 go_wp2_with((with_reducible refine gd 27 ?_);refine jy (w0:=w) (W:=w) w.heap.size rfl (.tmp 21) (.tmp 26) 200 241 _ 3 24 rfl Tryz.underlying200 VL rfl (by decide) (by decide) (.slice none 0 0) 0 [] [.int .i64 0,.int .i64 1,.int .i64 2] rfl rfl rfl (by simp [Value.oneCell']) (pP _ _ _ _) (Below.refl _ _) (Nat.le_refl _) (by decide) ?_;intro v1 w1 ho im zp dH;have HO:=ak ho;have HB:=ak im;clear ho im zp dH)
 obtain⟨g,cap,cur,rfl,hg,hh,Du,yR⟩:=Fq HO.1;have q0:=yR 0 _ rfl;have q1:=yR 1 _ rfl;have q2:=yR 2 _ rfl;have HH:=ak hh;have HQ:=ak (And.intro q0 (And.intro q1 q2));have c1:=(ah hh 1).trans q1;have f1:=bn hh 1;have hy1:=gv HB.1 oq;have HG:=ak hg;have HCP:=ak Du;clear yR q0 q1 q2 hh hg Du oe oq;rw[rounds_succ];go_wp2;rw[rounds_succ];go_wp2;go_ret2;obtain⟨q0,q1,q2⟩:=HQ.1;have cX:=(Array.getElem?_eq_some_iff.1 q1).1;refine⟨g,cap,_,rfl,HG.1,kf HH.1 1 _,HCP.1,?_,?_,?_,aH HB.1 HG.1⟩
 ·rw[Array.getElem?_setIfInBounds];simp [q0]
 ·rw[Array.getElem?_setIfInBounds];simp [cX]
 ·rw[Array.getElem?_setIfInBounds];simp [q2]
end Go.Proofs.YtmhdcgmfbjcndaaGreatDoor.P
namespace Go.Proofs.YtmhdcgmfbjcndaaGreatDoor.P
open Go.RowKit Go.Proofs.aa.ag Go.Proofs.aa.ao Go.Proofs.aa.ay
section
variable {P:Program}{Q:Exit→Act→World→Prop}{l n:Nat}{ops:Array Oper}{md:Region.Mode}
theorem MN{o:Oper}{a:Act}{K:Act→World→Prop}{r:Result Next}(h:o.upon P a K Q r):o.uponIn (Fence.wide.inRound l) n P a K Q r:=by
 cases r with
 |ok x w'=>
  cases x with
  |value v=>exact h
  |skip=>exact h
  |defer d=>exact h
  |enter f args=>
   refine⟨?_,?_⟩
   ·intro hq;have hd:(Fence.wide.inRound l).depth=none:=rfl;rw[hd] at hq;cases hq
   ·exact CallsIn.inRound l (callsIn_wide.2 h)
  |row r args=>
   refine⟨?_,?_⟩
   ·intro hq;have hd:(Fence.wide.inRound l).depth=none:=rfl;rw[hd] at hq;cases hq
   ·intro c cs hq;obtain⟨v,w',r,s⟩:=h c cs;exact⟨v,w',r,stepsIn_wide.2 s⟩
  |_=>exact h.elim
 |halt x w'=>cases x<;>exact h
theorem Oy(hd:∀(j:Nat)(o:Oper),ops[j]? =some o→∀c,o.op≠.defer c)(hl:¬LetsOut Q){i:Nat}{K:Act→World→Prop}{a:Act}{w:World}(h:wpOp P ops Q i K a w):wpOpIn (Fence.wide.inRound l) n P ops Q i K a w:=by
 unfold wpOp at h;unfold wpOpIn;cases ho:ops[i]? with
 |none=>simp only[ho] at h⊢;exact h
 |some o=>
  simp only[ho] at h⊢
  by_cases hw:Region.wanted o (yielded ops a.tmps)=true
  ·rw[if_pos hw] at h⊢;rcases h with h|h
   ·refine⟨fun _ _=>trivial,?_⟩;rw[Fence.inRound_round,Oper.semAt_eq _ _ _ (hd i o ho)];exact MN h
   ·exact absurd h.2 hl
  ·rw[if_neg hw] at h⊢;exact⟨fun _ _=>trivial,h⟩
theorem IC(hd:∀(j:Nat)(o:Oper),ops[j]? =some o→∀c,o.op≠.defer c)(hl:¬LetsOut Q):∀(fuel:Nat)(listed:Array Bool)(a:Act)(w:World),wpAny P md ops Q fuel listed a w→wpAnyIn (Fence.wide.inRound l) n P md ops Q fuel listed a w
 |0,_,_,_,h=>h
 |fuel+1,listed,a,w,h=>⟨h.1,fun i hi=>Oy hd hl (wpOp_mono (fun a' w' h'=>IC hd hl fuel _ a' w' h') (h.2 i hi))⟩
def Fs(ops:Array Oper):Bool:=ops.all fun o=>match o.op with| .defer _=>false|_=>true
theorem xa(h:Fs ops=true)(j:Nat)(o:Oper)(ho:ops[j]? =some o):∀c,o.op≠.defer c:=by
 intro c hc;have h1:=Array.all_eq_true'.1 h o (Array.mem_of_getElem? ho);rw[hc] at h1;cases h1
theorem RZ{S:World→Prop}{ds:List Nat}{id m:Nat}{a:Act}{w:World}(lst:Array Bool)(hm:P.follows .mixedOrders=true)(hn:ops.size=m)(Qh:Array.replicate m false=lst)(S8:Fs ops=true)(hl:¬LetsOut Q)(hS:S w.drew)
 (h:S w.drew→aZ P .any ops Q S ds m lst a w.drew):(Code.region id ops true).wpIn (Fence.wide.inRound l) n P Q a w:=by
 subst hn;subst Qh;exact wpIn_region_any hm (IC (xa S8) hl _ _ _ _ (mW _ _ _ _ (h hS)))
def xb(l:List Oper):Bool:=l.all fun o=>match o.op with| .defer _=>false|_=>true
theorem tK(hl:¬LetsOut Q):∀(L:List Oper)(a:Act)(w:World),xb L=true→wpList P ops Q L a w→wpListIn (Fence.wide.inRound l) n P ops Q L a w
 |[],_,_,_,h=>h
 |o::rest,a,w,hd,h=>by
  have BT:∀c,o.op≠.defer c:=by
   intro c hc;have h1:=List.all_eq_true.1 hd o (by simp);rw[hc] at h1;cases h1
  have zd:xb rest=true:=List.all_eq_true.2 fun x hx=>List.all_eq_true.1 hd x (by simp [hx]);unfold wpList at h;unfold wpListIn
  by_cases hw:Region.wanted o (yielded ops a.tmps)=true
  ·rw[if_pos hw] at h⊢;rcases h with h|h
   ·refine⟨fun _ _=>trivial,?_⟩;rw[Fence.inRound_round,Oper.semAt_eq _ _ _ BT];refine MN ?_;exact Oper.wp_mono (fun a' w' h'=>tK hl rest a' w' zd h') h
   ·exact absurd h.2 hl
  ·rw[if_neg hw] at h⊢;exact⟨fun _ _=>trivial,tK hl rest _ _ zd h⟩
end
end Go.Proofs.YtmhdcgmfbjcndaaGreatDoor.P
namespace Go.Proofs.YtmhdcgmfbjcndaaGreatDoor.P
open Go.RowKit Go.Proofs.aa.ag Go.Proofs.aa.ao Go.Proofs.aa.ay
attribute [local go_sem↓] Go.wp_at_zero Go.wp_at_succ
structure ID (w:World) (g:Nat) (cur:Array Value):Prop where
 hh:w.heap[g]? =some (.cells cur 241 (0,0))
 c0:cur[0]? =some (.int .i64 0)
 c1:cur[1]? =some (.int .i64 2)
 c2:cur[2]? =some (.int .i64 2)
theorem ID.below{w w':World}{g:Nat}{cur:Array Value}(h:ID w g cur)(hb:Below w.heap.size w w'):ID w' g cur:=⟨(hb.block _ (aN h.hh)).trans h.hh,h.c0,h.c1,h.c2⟩
theorem Ft(g c:Nat)(cur:Array Value)(w:World)(h:ID w g cur):
 Calls Tryz.prog 157 #[.int .i64 2,.slice (some ⟨g,0,none⟩) 1 c] w fun e w'=>e= .returned (.bool true)∧Below w.heap.size w w':=by
 have x0:=(ah h.hh 0).trans h.c0;have x1:=(ah h.hh 1).trans h.c1;have x2:=(ah h.hh 2).trans h.c2;clear h;go_enter Tryz.func157,Tryz.ntmps157;go_wp2;refine wp_loop_rounds 2 ?_;rw[rounds_succ]
 go_wp2_with(go_quiet (fail))
 rw[rounds_succ];go_wp2;go_ret;exact⟨rfl,by repeat (first|exact Below.refl _ _|apply ab|apply cZ)⟩
def NW1:List Int:=[3,0,10,0,0,0,0,0,0,0,0,0,0,0,0,0]
structure uI (w:World) (g:Nat) (cur:Array Value):Prop where
 hh:w.heap[g]? =some (.cells cur 271 (0,0))
 c0:cur[0]? =some (.int .i64 0)
 c1:cur[1]? =some (.int .i64 10)
theorem uI.below{w w':World}{g:Nat}{cur:Array Value}(h:uI w g cur)(hb:Below w.heap.size w w'):uI w' g cur:=⟨(hb.block _ (aN h.hh)).trans h.hh,h.c0,h.c1⟩
theorem yS{P:Program}{c:Code}{Q:Exit→Act→World→Prop}{n:Nat}{a:Act}{w:World}(h:∀W,W=w→Code.rounds P c Q n a W):Code.rounds P c Q n a w:=h w rfl
def b16(a b c:Int):Array Value:= #[.int .i64 a,.int .i64 b,.int .i64 c,.int .i64 0,.int .i64 0,.int .i64 0,.int .i64 0,.int .i64 0,.int .i64 0,.int .i64 0,.int .i64 0,.int .i64 0,.int .i64 0,.int .i64 0,.int .i64 0,.int .i64 0]
theorem KT(g c:Nat)(cur:Array Value)(sh:Int)(w:World)(h:uI w g cur):
 Calls Tryz.prog 160 #[.agg #[.bool true,.slice (some ⟨g,0,none⟩) 1 c],.int .i64 sh] w fun e w'=>∃g':Nat,e= .returned (.slice (some ⟨g',0,none⟩) 128 128)∧w.heap.size≤g'∧w'.heap[g']? =some (cS (NW1.flatMap w8))∧Below w.heap.size w w':=by
 have x0:=(ah h.hh 0).trans h.c0;have x1:=(ah h.hh 1).trans h.c1;have cX:=aN h.hh;clear h;have Nw:∀w,(Instr.makeSlice 68 (.int .i64 16) (.int .i64 16)).run Tryz.prog w= .ok (.slice (some ⟨w.heap.size,0,none⟩) 16 16) (w.alloc (.cells #[.int .i64 0,.int .i64 0,.int .i64 0,.int .i64 0,.int .i64 0,.int .i64 0,.int .i64 0,.int .i64 0,.int .i64 0,.int .i64 0,.int .i64 0,.int .i64 0,.int .i64 0,.int .i64 0,.int .i64 0,.int .i64 0] 3)):=fun _=>by kernel_rfl
 go_enter Tryz.func160,Tryz.ntmps160;go_wp2;refine wp_loop_rounds 2 ?_;refine yS ?_;intro W1 fI;have im:Below w.heap.size w W1:=by rw[fI];repeat (first|exact Below.refl _ _|refine aH ?_ (by simp)|apply ab)
 have h1:W1.heap[w.heap.size+1]? =some (.cells (b16 3 0 0) 3 (0,0)):=by
  rw[fI];rw[show(bits BinOp.or IntKind.i64 2 1:Int)=3 from by kernel_rfl];exact qd w _ _
 have kC:=ak im;have HBL:=ak h1;have hs1:W1.heap.size=w.heap.size+2:=by rw[fI];simp only[World.setCell,World.alloc,Array.size_modify,Array.size_push]
 have y0:=gv im x0;have y1:=gv im x1;have c1:=(ah h1 1).trans (show _=some (.int .i64 0) from rfl);have c2:=(ah h1 2).trans (show _=some (.int .i64 0) from rfl);have hf1:=bn h1;clear fI x0 x1 Nw h1 im;rw[rounds_succ]
 go_wp2_with fail
 go_region
 go_wp2;refine yS ?_;intro W2 hW2
 have iq:Below w.heap.size w W2:=by
  rw[hW2];exact Below.drew (ab (aH (aH kC.1 (by simp)) (by simp)) _)
 have h2:W2.heap[w.heap.size+1]? =some (.cells (nums .i64 NW1).toArray 3 (0,0)):=by
  rw[hW2,ua];exact ar (aQ (cs:=b16 3 0 0) (cs':=(nums .i64 NW1).toArray) (aQ (cs:=b16 3 0 0) (cs':=b16 3 0 0) HBL.1 1 (.int .i64 0) (by kernel_rfl)) 2 (.int .i64 10) (by kernel_rfl)) _
 clear hW2 c1 c2 hf1 y0 y1;rw[rounds_succ]
 go_wp2_with fail
 go_at_call 66
 refine(tJ _ _ NW1 _ (BG h2 (by decide)) (by decide) (by decide)).mono ?_;rintro e w3 ⟨g',rfl,WH,hh',rQ⟩;go_wp2;go_ret;exact⟨g',rfl,Nat.le_trans iq.size WH,hh',bR iq rQ⟩
end Go.Proofs.YtmhdcgmfbjcndaaGreatDoor.P
namespace Go.Proofs.YtmhdcgmfbjcndaaGreatDoor.P
open Go.RowKit Go.Shelf Go.Proofs.aa.ag Go.Proofs.aa.ao Go.Proofs.aa.ay
attribute [local go_sem] Oper.semAt_some
def VM(gs gk:Nat)(X Y:World):Prop:=∀k,k=gs∨k=gk→∀o,X.heap[k]? =some o→o.isCells=true→Y.heap[k]? =some o
theorem VM.trans{gs gk:Nat}{A B C:World}(h:VM gs gk A B)(k:VM gs gk B C):VM gs gk A C:=fun i hi o ho hc=>k i hi o (h i hi o ho hc) hc
theorem VM.putObj{gs gk:Nat}(W:World)(l:Nat)(o o':Obj)(h:W.heap[l]? =some o)(hc:o.isCells=false):VM gs gk W (W.putObj l o'):=by
 intro k _ x hx hxc
 by_cases e:k=l
 ·subst e;rw[h] at hx;cases hx;rw[hc] at hxc;cases hxc
 ·exact(World.putObj_heap_other e).trans hx
theorem KU(W:World):W.grownBy W.drew none:=⟨rfl,rfl,rfl,Nat.le_refl _,fun _ _ _=>rfl⟩
def abv(v:Value)(_:Unit):Array Value:= #[v]
theorem Fu(m:Nat)(hm:2≤m)(gs gk g c:Nat)(w:World)(hs:w.heap[gs]? =some (.cells #[.slice (some ⟨g,0,none⟩) 1 c] 249 (0,0)))(hk:w.heap[gk]? =some (.cells #[.int .i64 7] 3 (0,0)))(hc:1≤c):
 SeqStopsK Fence.wide m Tryz.prog 198 #[.pointer (some ⟨gs,0,none⟩),.pointer (some ⟨gk,0,none⟩)] (abv (.slice (some ⟨g,0,none⟩) 1 1)) (VM gs gk) (fun ys=>ys=[()]) (fun pre=>pre<+:[()]) 1 w:=by
 intro l J Jx W hW hJ _ hY h0;have OQ:=(hW.block _ (aN hs)).trans hs;have OK:=(hW.block _ (aN hk)).trans hk;have s0:=(ah OQ 0).trans rfl;have k0:=(ah OK 0).trans rfl;have HY:=ak hY;have HJ:=ak hJ;have H0:=ak h0;have HS:=ak OQ;have HK:=ak OK;clear hY hJ h0 hs hk hW OQ OK;refine callsIn_of_wp Tryz.func198 rfl trivial ?_ rfl;simp only[Tryz.ntmps198,List.size_toArray,List.length_cons,List.length_nil,Nat.reduceAdd,Nat.reduceSub,Array.replicate_succ,Array.replicate_zero,List.push_toArray,List.append_toArray,List.nil_append,List.cons_append];gi_wp2
 refine wpIn_loop_rounds 2 ?_;rw[roundsIn_succ]
 gi_wp2_with fail
 gi_region
 simp only[show(min 7 1:Int)=1 from by decide];obtain⟨fn,tmps,assign,body,hy,hR⟩:=HY.1 [] () W.drew (HJ.1 _ _ _ none H0.1 (KU W) (fun _ e=>nomatch e)) (by decide);unfold abv at hy;gi_wp2
 refine⟨fun _=>by omega,hR.mono ?_⟩;rintro e W3 (⟨rfl,Nu,Qb⟩|⟨rfl,xM⟩)
 ·have s0:=(ah (Qb _ (.inl rfl) _ HS.1 rfl) 0).trans rfl;have k0:=(ah (Qb _ (.inr rfl) _ HK.1 rfl) 0).trans rfl;gi_wp2
  rw[roundsIn_succ];gi_wp2
  go_end0
  exact⟨⟨_,rfl⟩,.inl ⟨_,rfl,Nu⟩⟩
 ·gi_wp2
  refine bodyPost_ret (results_none rfl _ _ _) rfl ?_;exact⟨⟨_,rfl⟩,.inr ⟨_,List.prefix_refl _,xM⟩⟩
theorem IE(A:Option Addr)(n c:Nat)(w:World):
 Calls Tryz.prog 192 #[.slice A n c,.int .i64 7] w fun e w'=>e= .returned (.func (.func 198) #[] #[.pointer (some ⟨w.heap.size,0,none⟩),.pointer (some ⟨w.heap.size+1,0,none⟩)])∧w'=(w.alloc (.cells #[.slice A n c] 249)).alloc (.cells #[.int .i64 7] 3):=by
 have ON:∀(fn:Fn)(first cap:Array Value)(w:World),(Instr.makeFunc fn first cap).run Tryz.prog w= .ok (.func fn first cap) w:=fun _ _ _ _=>rfl;go_enter Tryz.func192,Tryz.ntmps192;go_wp2;go_ret;exact⟨rfl,rfl⟩
theorem R2:(Tryz.prog.info? 251).map (fun i=>(i.zero,i.size,i.bytes))=some (some (.agg #[.bool false,.slice none 0 0]),2,32):=by kernel_rfl
structure BI (w:World) (v:Value) (s:Value):Prop where
 has:∃(g cap:Nat)(cur:Array Value),s= .slice (some ⟨g,0,none⟩) 1 cap∧w.heap[g]? =some (.cells cur 251 (0,0))∧cur[0]? =some (.bool true)∧cur[1]? =some v∧1≤cap
theorem BI.below{w w':World}{v s:Value}(h:BI w v s)(hb:Below w.heap.size w w'):BI w' v s:=by
 obtain⟨g,cap,cur,h1,h2,h3,h4,h5⟩:=h.has;exact⟨g,cap,cur,h1,(hb.block _ (aN h2)).trans h2,h3,h4,h5⟩
structure HIn (w:World) (s:Value) (W:World):Prop where
 b0:W.heap[w.heap.size]? =some (.cells #[.bool true] 4 (0,0))
 b1:W.heap[w.heap.size+1]? =some (.cells #[s] 247 (0,0))
 bel:Below w.heap.size w W
 sz:w.heap.size+4≤W.heap.size
def HIs(w:World)(v:Value)(pre:List Unit)(W:World):Prop:=∃s,HIn w s W∧(pre=[]→s= .slice none 0 0)∧(pre=[()]→BI W v s)
theorem VN{w:World}{v:Value}{B:Nat}(hB:w.heap.size≤B):OwnFrom B (HIs w v):=by
 rintro pre X Y row ⟨s,⟨h1,h2,h3,h4⟩,h5,h6⟩ hg hr;have hk:=fun(k:Nat)(o:Obj)(h:X.heap[k]? =some o)(hc:o.isCells=true)=>grownBy_keeps_cells hg (fun r e=>(hr r e).2) h hc;refine⟨s,⟨(hk _ _ h1 rfl).trans h1,(hk _ _ h2 rfl).trans h2,h3.grown hg h3.size (fun k e=>Nat.le_trans hB (hr k e).1),Nat.le_trans h4 hg.size⟩,h5,fun e=>?_⟩;obtain⟨g,cap,cur,e1,e2,e3,e4,e5⟩:=(h6 e).has;exact⟨g,cap,cur,e1,(hk _ _ e2 rfl).trans e2,e3,e4,e5⟩
theorem KV(g c:Nat)(w:World)(hc:1≤c):
 Calls Tryz.prog 179 #[.slice (some ⟨g,0,none⟩) 1 c,.bool true] w fun e w'=>∃s,e= .returned s∧BI w' (.slice (some ⟨g,0,none⟩) 1 1) s∧Below w.heap.size w w':=by
 refine(callsIn_wide (n:=8)).1 ?_;refine callsIn_of_wp_marks Tryz.func179 rfl trivial ?_ rfl;simp only[Tryz.ntmps179,List.size_toArray,List.length_cons,List.length_nil,Nat.reduceAdd,Nat.reduceSub,Array.replicate_succ,Array.replicate_zero,List.push_toArray,List.append_toArray,List.nil_append,List.cons_append]
 gi_wp2_with (refine⟨trivial,?_⟩;gi_at_call 192;refine(callsIn_wide.2 (IE _ _ _ _)).mono ?_;rintro e w' ⟨rfl,rfl⟩)
 obtain⟨W0,pK⟩:∃W0,W0=((((w.alloc (.cells #[.bool true] 4)).alloc (.cells #[.slice none 0 0] 247)).alloc (.cells #[.slice (some ⟨g,0,none⟩) 1 c] 249)).alloc (.cells #[.int .i64 7] 3)):=⟨_,rfl⟩;obtain⟨q0,q1,q2,q3,q4,q5⟩:=lW w _ _ _ _ W0 pK;rw[←pK];clear pK
 refine wpIn_rangeFunc_ownF (w:=W0) rfl (by omega) (gf:=198) (lb:= #[.pointer (some ⟨w.heap.size+1+1,0,none⟩),.pointer (some ⟨w.heap.size+1+1+1,0,none⟩)]) rfl trivial (enters_of Tryz.func198 (by kernel_rfl) rfl)
  (Fu (8-1) (by omega) _ _ g c W0 q2 q3 hc) (Kp:=VM (w.heap.size+1+1) (w.heap.size+1+1+1)) (fun h k=>h.trans k) (fun W l o o' _ h hc _=>VM.putObj W l o o' h hc) (Below.refl _ _) (fun _=>rfl)
  (HIs w (.slice (some ⟨g,0,none⟩) 1 1)) (fun _ _ _=>False) (VN (by omega)) (fun _ _ _ _ _ h=>h.elim) ⟨_,⟨q0,q1,q5,by omega⟩,fun _=>rfl,fun e=>by cases e⟩
  (fun _=>{tmps:= #[.slice (some ⟨g,0,none⟩) 1 c,.bool true,undef,.pointer (some ⟨w.heap.size,0,none⟩),.slice none 0 0,.pointer (some ⟨w.heap.size+1,0,none⟩),.slice (some ⟨g,0,none⟩) 1 1,.slice (some ⟨g,0,none⟩) 1 c,.int .i64 1,.bool false,undef,undef,undef,.slice (some ⟨g,0,none⟩) 1 c,.func (.func 198) #[] #[.pointer (some ⟨w.heap.size+1+1,0,none⟩),.pointer (some ⟨w.heap.size+1+1+1,0,none⟩)],.slice (some ⟨g,0,none⟩) 1 1,undef,undef,undef,undef,undef,undef,undef],defers:=[]}) ?assign ?body ?done ?stop
 case assign=>
  rintro l x W K hK;have HK:=ak hK;clear hK;unfold abv;gi_wp2
  exact HK.1
 case stop=>
  rintro D cx pre W hD J4 h;exact h.elim
 case done=>
  rintro D ys W hD rfl ⟨s,⟨i1,i2,i3,i4⟩,i5,i6⟩ hK;have e1:=(ah i2 0).trans rfl;have N1:=ak (i6 rfl);have I3:=ak i3;have HK:=ak hK;clear i1 i2 i3 i5 i6 hK q0 q1 q2 q3 q5;gi_wp2
  refine⟨by simp,.inl ⟨_,_,rfl,run_takeDeferred HK.1,?_⟩⟩;have hb:=belowK_b (w:=w) (Nat.le_refl _) W D (.deferred (some [])) (.deferred none) (by omega) HK.1 rfl rfl;refine⟨s,?_,s,rfl,?_,I3.1.trans hb⟩
  ·simp [results,Tryz.f179,go_sem]
  ·obtain⟨g,cap,cur,h1,h2,h3,h4,h5⟩:=N1.1.has;exact⟨g,cap,cur,h1,(World.putObj_heap_other (by rintro rfl;rw[HK.1] at h2;cases h2)).trans h2,h3,h4,h5⟩
 case body=>
  rintro l pre x W ⟨s,⟨i1,i2,i3,i4⟩,i5,i6⟩ cX;have hp:pre=[]:=List.length_eq_zero_iff.1 (by omega);subst hp;obtain rfl:=i5 rfl;have b0:=(ah i1 0).trans rfl;have b1:=(ah i2 0).trans rfl;have f1:=bn i2 0;have I1:=ak i1;have I2:=ak i2;have I3:=ak i3;clear i1 i2 i3 i5 i6 cX q0 q1 q2 q3 q4 q5
  gi_wp2_with ((with_reducible refine pd (N:=21) rfl ?_);refine tK (by rintro⟨a,w,h⟩;exact h) _ _ _ (by rfl) ?_;refine jy (w0:=w) (W:=W) w.heap.size rfl (.tmp 16) (.tmp 20) 247 251 _ 2 32 rfl Tryz.underlying247 R2 rfl (by decide) (by decide) (.slice none 0 0) 0 [] [.bool true,.slice (some ⟨g,0,none⟩) 1 1] rfl rfl rfl (by simp [Value.oneCell']) (pP _ _ _ _) I3.1 (by omega) (by decide) ?_;intro v1 w1 ho im zp dH;have HO:=ak ho;have HB:=ak im;have HG:=ak zp;clear ho im zp dH)
  have my:=fun k(h:k<W.heap.size)=>HG.1.block k h (by simp [Value.ownBlock]);have d1:=(my _ (by omega)).trans I2.1;have c1:=(ah d1 0).trans rfl;have f1:=bn d1 0;have D0:=ak ((my _ (by omega)).trans I1.1);have D1:=ak d1;have HGR:=ak my;have oL:=HG.1.size;obtain⟨g2,cap,cur,rfl,uN,Yq,Du,yR⟩:=Fq HO.1;have R1:=ak (And.intro uN (And.intro Yq (And.intro Du yR)));clear my d1 b0 b1 uN Yq Du yR HO;go_wp2;obtain⟨uN,Yq,Du,yR⟩:=R1.1
  have mA:g2≠w.heap.size+1:=by
   rintro rfl;rw[Yq] at D1;have:=D1.1;simp at this
  refine⟨⟨by simpa [World.setCell] using oL,fun k o hk hc=>?_⟩,?_,_,⟨aJ D0.1 (by simp) _,aQ D1.1 0 _ rfl,HB.1.setCell (by simp) _,by simp [World.setCell];omega⟩,fun e=>by simp at e,fun _=>⟨g2,cap,cur,rfl,aJ Yq (by simpa using mA) _,yR 0 _ rfl,yR 1 _ rfl,Du⟩⟩
  ·have mA:k≠w.heap.size+1:=by
    rintro rfl;rw[I2.1] at hk;cases hk;cases hc
   exact(Below.heap_setCell _ _ _ _ (by simpa using mA)).trans ((HGR.1 k (aN hk)).trans hk)
  ·intro k hk o ho hc;exact(Below.heap_setCell _ _ _ _ (by simp;omega)).trans ((HGR.1 k (aN ho)).trans ho)
end Go.Proofs.YtmhdcgmfbjcndaaGreatDoor.P
