import Derived.Test.YtmhdcgmfbjcndaaGreatDoorB38
set_option linter.unusedVariables false
set_option linter.unusedSimpArgs false
set_option maxRecDepth 100000
set_option maxHeartbeats 8000000
namespace Go.Proofs.YtmhdcgmfbjcndaaGreatDoor.P
open Go.RowKit Go.Shelf Go.Proofs.aa.ag Go.Proofs.aa.ao Go.Proofs.aa.ay
attribute [local go_sem] Oper.semAt_some
theorem yT{W W':World}(h:Below W.heap.size W W'):W.grownBy W' none:=⟨h.os,h.tape,h.output,h.size,fun k hk _=>h.block k hk⟩
theorem abz:dU.f 6=some (0,1):=by decide+kernel
theorem abA:dU.f 7=some (0,1):=by decide+kernel
def an3(x:Empty):Array Value:=x.elim
theorem Fx(m:Nat)(hm:4≤m)(b1 g c:Nat)(b0 b2:Value)(cur:Array Value)(w:World)(hs:w.heap[b1]? =some (.cells #[.slice (some ⟨g,0,none⟩) 2 c] 68 (0,0)))(hg:w.heap[g]? =some (.cells cur 3 (0,0)))(h0:cur[0]? =some (.int .i64 6))(h1:cur[1]? =some (.int .i64 7)):
 SeqStopsK Fence.wide m Tryz.prog 115 #[.pointer (some ⟨b1,0,none⟩),b2,b0] an3 KpT (fun ys:List Empty=>ys=[]) (fun _=>False) 0 w:=by
 intro l J Jx W hW hJ _ hY hj;have s0:=(ah ((hW.block _ (aN hs)).trans hs) 0).trans rfl;have x0:=(ah ((hW.block _ (aN hg)).trans hg) 0).trans h0;have x1:=(ah ((hW.block _ (aN hg)).trans hg) 1).trans h1;have HJ:=ak hj;have HA:=ak hJ;have S0:=ak ((hW.block _ (aN hs)).trans hs);have G0:=ak ((hW.block _ (aN hg)).trans hg);have X1:=ak h1;clear hY hJ hj hs hg h0 h1 hW;refine callsIn_of_wp Tryz.func115 rfl trivial ?_ rfl;simp only[Tryz.ntmps115,List.size_toArray,List.length_cons,List.length_nil,Nat.reduceAdd,Nat.reduceSub,Array.replicate_succ,Array.replicate_zero,List.push_toArray,List.append_toArray,List.nil_append,List.cons_append];gi_wp2
 refine wpIn_loop_rounds 3 ?_;rw[roundsIn_succ]
 gi_wp2_with (refine⟨trivial,fun _=>by omega,?_⟩;gi_at_call 116;with_reducible refine(callsIn_wide.2 (dU.calls 6 0 1 _ abz)).mono ?_;rintro e w1 ⟨rfl,hb⟩;have s0:=(ah (cK S0.1 hb) 0).trans rfl;have x1:=(ah (cK G0.1 hb) 1).trans X1.1;have HB:=ak hb;clear hb)
 rw[roundsIn_succ]
 gi_wp2_with (refine⟨trivial,fun _=>by omega,?_⟩;gi_at_call 116;with_reducible refine(callsIn_wide.2 (dU.calls 7 0 1 _ abA)).mono ?_;rintro e w2 ⟨rfl,hb⟩;have HB:=sb HB hb;clear hb)
 rw[roundsIn_succ];gi_wp2
 go_end0
 exact⟨⟨_,rfl⟩,.inl ⟨_,rfl,HA.1 _ _ _ none HJ.1 (yT HB.1) (fun _ e=>nomatch e)⟩⟩
end Go.Proofs.YtmhdcgmfbjcndaaGreatDoor.P
namespace Go.Proofs.YtmhdcgmfbjcndaaGreatDoor.P
open Go.RowKit Go.Shelf Go.Proofs.aa.ag Go.Proofs.aa.ao Go.Proofs.aa.ay
attribute [local go_sem] Oper.semAt_some
attribute [local go_sem↓] Go.wp_at_zero Go.wp_at_succ
section
variable {P:Program}{ops:Array Oper}{o:Oper}{a:Act}{w:World}{Q:Exit→Act→World→Prop}{K:Act→World→Prop}
def Sb(K:Act→World→Prop)(Q:Exit→Act→World→Prop):Exit→Act→World→Prop
 | .normal,a,w=>K a w
 |e,a,w=>Q e a w
theorem Fy(hl:¬LetsOut Q)(h:wpList P ops (Sb K Q) [o] a w):if Region.wanted o (yielded ops a.tmps)=true then Oper.wp P o a w K Q else K (a.put o.dst undef) w:=by
 unfold wpList at h
 by_cases hw:Region.wanted o (yielded ops a.tmps)=true
 ·rw[if_pos hw] at h⊢;rcases h with h|h
  ·unfold Oper.wp at h⊢;generalize(execOp a.eval o).run P w=r at h⊢;cases r with
   |ok x w'=>
    cases x with
    |value v=>exact h
    |skip=>exact h
    |defer d=>exact h
    |enter f args=>
     refine Calls.mono h ?_;intro e w2 he;cases e with
     |returned v=>exact he
     |panicked chain=>exact he
     |outgrown=>exact absurd he hl
    |row r args=>exact h
    |_=>exact h.elim
   |halt x w'=>cases x<;>exact h
  ·exact absurd h.2 hl
 ·rw[if_neg hw] at h⊢;exact h
def Yt(Q:Exit→Act→World→Prop):Exit→Act→World→Prop
 | .normal,a,w=>Q .normal a w
 |_,_,_=>False
theorem OC{F:Fence}{n:Nat}{c:Code}(h:c.wpIn F n P (Yt Q) a w):c.wpIn F n P Q a w:=Code.wpIn_mono (fun e a w he=>by cases e<;>first|exact he|exact he.elim) h
variable {md:Region.Mode}{n:Nat}
theorem II(hd:∀(j:Nat)(o:Oper),ops[j]? =some o→∀c,o.op≠.defer c)(hl:¬LetsOut Q){i:Nat}{K:Act→World→Prop}{a:Act}{w:World}(h:wpOp P ops Q i K a w):wpOpIn Fence.wide n P ops Q i K a w:=by
 unfold wpOp at h;unfold wpOpIn;cases ho:ops[i]? with
 |none=>simp only[ho] at h⊢;exact h
 |some o=>
  simp only[ho] at h⊢
  by_cases hw:Region.wanted o (yielded ops a.tmps)=true
  ·rw[if_pos hw] at h⊢;rcases h with h|h
   ·refine⟨fun _ _=>trivial,?_⟩;rw[Oper.semAt_plain _ _ _ (hd i o ho)];exact C6 h
   ·exact absurd h.2 hl
  ·rw[if_neg hw] at h⊢;exact⟨fun _ _=>trivial,h⟩
theorem BL(hd:∀(j:Nat)(o:Oper),ops[j]? =some o→∀c,o.op≠.defer c)(hl:¬LetsOut Q):∀(fuel:Nat)(listed:Array Bool)(a:Act)(w:World),wpAny P md ops Q fuel listed a w→wpAnyIn Fence.wide n P md ops Q fuel listed a w
 |0,_,_,_,h=>h
 |fuel+1,listed,a,w,h=>⟨h.1,fun i hi=>II hd hl (wpOp_mono (fun a' w' h'=>BL hd hl fuel _ a' w' h') (h.2 i hi))⟩
theorem KX{S:World→Prop}{ds:List Nat}{id m:Nat}{a:Act}{w:World}(lst:Array Bool)(hm:P.follows .mixedOrders=true)(hn:ops.size=m)(Qh:Array.replicate m false=lst)(S8:Fs ops=true)(hl:¬LetsOut Q)(hS:S w.drew)
 (h:S w.drew→aZ P .any ops Q S ds m lst a w.drew):(Code.region id ops true).wpIn Fence.wide n P Q a w:=by
 subst hn;subst Qh;exact wpIn_region_any hm (BL (xa S8) hl _ _ _ _ (mW _ _ _ _ (h hS)))
end
theorem fi:wrap64 0=0:=by unfold Go.RowKit.wrap64;omega
theorem abB:iU.f 2 OB1=some (KD1,true):=by kernel_rfl
theorem abC{W:World}{base:Nat}{ok:Nat→Prop}{v:Value}(h:Kd.R (Kd.int .i64) 3 W base ok v KD1):∃(g cap:Nat)(cur:Array Value),v= .slice (some ⟨g,0,none⟩) 2 cap∧base≤g∧W.heap[g]? =some (.cells cur 3 (0,0))∧cur[0]? =some (.int .i64 6)∧cur[1]? =some (.int .i64 7):=by
 obtain⟨_,inner,ho,hr⟩:=h;obtain⟨g,cap,cur,rfl,hb,hh,hc,yR⟩:=jn ho (by decide)
 have e0:inner[0]? =some (.int .i64 6):=by
  have hm:(inner.drop (0*1)).take 1=[.int .i64 6]:=(Kd.int .i64).gh (hr.2 0 6 rfl);have:=congrArg (fun l=>l[0]?) hm;simpa [List.getElem?_take] using this
 have e1:inner[1]? =some (.int .i64 7):=by
  have hm:(inner.drop (1*1)).take 1=[.int .i64 7]:=(Kd.int .i64).gh (hr.2 1 7 rfl);have:=congrArg (fun l=>l[0]?) hm;simpa [List.getElem?_take] using this
 exact⟨g,cap,cur,rfl,hb,hh,yR _ _ e0,yR _ _ e1⟩
def TwI(go:Nat)(w W6:World)(_:List Empty)(W:World):Prop:=j' go w W∧∀(k:Nat)(o:Obj),W6.heap[k]? =some o→o.isCells=true→W.heap[k]? =some o
theorem VS{go:Nat}{w W6:World}{b:Nat}(hb:w.heap.size≤b):OwnFrom b (TwI go w W6):=by
 rintro pre X Y row ⟨h1,h2⟩ hg hr;refine⟨⟨hg.os.trans h1.os,hg.tape.trans h1.tape,hg.output.trans h1.output,Nat.le_trans h1.size hg.size,fun k hk mA=>?_⟩,fun k o hk hc=>?_⟩
 ·refine(hg.block k (Nat.lt_of_lt_of_le hk h1.size) (fun e=>?_)).trans (h1.block k hk mA);have:=(hr k e.symm).1;omega
 ·exact(grownBy_keeps_cells hg (fun r e=>(hr r e).2) (h2 k o hk hc) hc).trans (h2 k o hk hc)
theorem OD(A6:Option Addr)(c6:Nat)(A7:Option Addr)(c7:Nat)(A8:Option Addr)(c8 gy go:Nat)(L:List Int)(hL:L.length=10240)(w:World)(hy:w.heap[gy]? =some (.cells (Ym A6 c6 A7 c7 A8 c8 go) 87 (0,0)))(hg:w.heap[go]? =some (cS L))
 (h6:∀W,j' go w W→Kd.C gW W A6 mG.length mG) (om:mG.length≤c6) (h7:∀W,j' go w W→Kd.C gQ W A7 pO.length pO) (lY:pO.length≤c7) (h8:∀W,j' go w W→Kd.C (Kd.slice 5 (Kd.int .u8)) W A8 rK.length rK) (nT:rK.length≤c8):
 Calls Tryz.prog 33 #[.pointer (some ⟨gy,0,none⟩)] w fun e w'=>e= .returned (.tuple #[])∧w'.heap[go]? =some (cS (fc (fc L 8064 VR) 9728 (List.replicate 300 0)))∧j' go w w':=by
 obtain⟨W1,fI⟩:∃X,X=w.alloc (.cells #[.pointer (some ⟨gy,0,none⟩)] 85):=⟨_,rfl⟩;have xo:=ak fI;have HB:=ak (show Below w.heap.size w W1 by rw[fI];exact ab (Below.refl _ _) _);have D1:=ak (show W1.heap[w.heap.size]? =some (.cells #[.pointer (some ⟨gy,0,none⟩)] 85 (0,0)) by rw[fI];exact aI w _);have HS1:=lt D1;have Ti:=ak (show gy≠go from dQ hy hg (by decide));have LG:=ak (aN hg);have DY:=ak (cK hy HB.1);have DG:=ak (cK hg HB.1);have H6:=ak h6;have H7:=ak h7;have H8:=ak h8;have y0:=cL DY 0;have y1:=cL DY 1;have y2:=cL DY 2;have y3:=cL DY 3;have y4:=cL DY 4;have y5:=cL DY 5;have y6:=cL DY 6;have y7:=cL DY 7;have y8:=cL DY 8;have p0:=cL D1;clear fI hy hg h6 h7 h8;refine(callsIn_wide (n:=8)).1 ?_;refine callsIn_of_wp_marks Tryz.func33 rfl trivial ?_ rfl;simp only[Tryz.ntmps33,List.size_toArray,List.length_cons,List.length_nil,Nat.reduceAdd,Nat.reduceSub,Array.replicate_succ,Array.replicate_zero,List.push_toArray,List.append_toArray,List.nil_append,List.cons_append]
 gi_wp2_with ((with_reducible refine pd (N:=15) rfl ?_);rw[←xo.1])
 refine⟨trivial,?_⟩;refine(callsIn_wide.2 (dG.calls 10 2 4 2 60 2 2 A6 c6 mG A7 c7 pO A8 c8 rK OB1 AT1 _ (H6.1 _ (j'.fV HB.1)) om (H7.1 _ (j'.fV HB.1)) lY (H8.1 _ (j'.fV HB.1)) nT Ys)).mono ?_;rintro e w2 ⟨v0,v1,rfl,fS,sM,hb⟩;obtain⟨gr,cr,cur,rfl,my,hhr,r0,r1⟩:=R9 fS;obtain⟨ga,ca,an0,rfl,hga,hha,ra⟩:=Sa sM;have R0:=ak (Kd.aW fS);have DR:=ak hhr;have DA:=ak hha;have A0:=ak ra;have X0:=ak r0;have X1:=ak r1;have GR:=ak my;have GA:=ak hga;replace D1:=kb D1 hb;replace DY:=kb DY hb;replace DG:=kb DG hb;replace HB:=sb HB hb;have y5:=cL DY 5;have p0:=cL D1;clear fS sM hb hha ra hhr r0 r1 y0 y1 y2 y3 y4 y6 y7 y8 my hga
 gi_wp2_with fail
 refine⟨trivial,?_⟩;refine(callsIn_wide.2 (iU.calls 2 (some ⟨gr,0,none⟩) cr OB1 KD1 true _ R0.1.2.2 R0.1.2.1 abB)).mono ?_;rintro e w3 ⟨v2,rfl,zc,hb⟩;obtain⟨gk,ck,an4,rfl,ZM,hhk,k0,k1⟩:=abC zc;have K0:=ak k0;have K1:=ak k1;have DK:=ak hhk;have GK:=ak (Nat.le_trans HB.1.size ZM);have CK:=ak (Kd.aW zc).2.2;replace D1:=kb D1 hb;replace DY:=kb DY hb;replace DG:=kb DG hb;replace DR:=kb DR hb;replace DA:=kb DA hb;replace HB:=sb HB hb;clear zc ZM hhk k0 k1 hb y5;obtain⟨W4,Cu⟩:∃X,X=w3.alloc (.cells #[.slice (some ⟨gk,0,none⟩) 2 ck] 68):=⟨_,rfl⟩;have HW4:=ak Cu;have vh:Below w3.heap.size w3 W4:=by rw[Cu];exact ab (Below.refl _ _) _
 have D4:=ak (show W4.heap[w3.heap.size]? =some (.cells #[.slice (some ⟨gk,0,none⟩) 2 ck] 68 (0,0)) by rw[Cu];exact aI _ _);replace D1:=kb D1 vh;replace DY:=kb DY vh;replace DG:=kb DG vh;replace DR:=kb DR vh;replace DA:=kb DA vh;replace DK:=kb DK vh;have Sc:=ak (Nat.lt_of_lt_of_le LG.1 HB.1.size);replace HB:=sb HB vh;replace CK:=Cb CK vh;have p0:=cL D1;have p4:=cL D4;clear Cu vh
 gi_wp2_with ((with_reducible refine pd (N:=32) rfl ?_);rw[←HW4.1])
 refine⟨trivial,?_⟩;refine(callsIn_wide.2 (OB A6 c6 A7 c7 A8 c8 gy go L hL (some ⟨gk,0,none⟩) ck _ DY.1 DG.1 CK.1)).mono ?_;rintro e w5 ⟨rfl,Bo,ud⟩;replace D1:=ak (j'.eS ud D1.1 (by have h1:=LG.1;have h2:=HS1.1;have h3:=GR.1;have h4:=GA.1;have h5:=GK.1;have h6:=Sc.1;omega));replace DR:=ak (j'.eS ud DR.1 (by have h1:=LG.1;have h2:=HS1.1;have h3:=GR.1;have h4:=GA.1;have h5:=GK.1;have h6:=Sc.1;omega));replace DA:=ak (j'.eS ud DA.1 (by have h1:=LG.1;have h2:=HS1.1;have h3:=GR.1;have h4:=GA.1;have h5:=GK.1;have h6:=Sc.1;omega));replace DK:=ak (j'.eS ud DK.1 (by have h1:=LG.1;have h2:=HS1.1;have h3:=GR.1;have h4:=GA.1;have h5:=GK.1;have h6:=Sc.1;omega));replace D4:=ak (j'.eS ud D4.1 (by have h1:=LG.1;have h2:=HS1.1;have h3:=GR.1;have h4:=GA.1;have h5:=GK.1;have h6:=Sc.1;omega));replace DY:=ak (j'.eS ud DY.1 Ti.1);replace DG:=ak Bo;have HT:=ak (j'.trans (j'.fV HB.1) ud);have p0:=cL D1;have p4:=cL D4;clear Bo ud CK
 gi_wp2_with fail
 refine⟨trivial,?_⟩;refine(callsIn_wide.2 (IG A6 c6 A7 c7 A8 c8 gy go (some ⟨gk,0,none⟩) ck _ DY.1 (H6.1 _ HT.1) om (H7.1 _ HT.1) lY (H8.1 _ HT.1) nT)).mono ?_;rintro e w6 ⟨b0,b1,b2,rfl,im,hb⟩;replace D1:=kb D1 hb;replace DR:=kb DR hb;replace DA:=kb DA hb;replace DK:=kb DK hb;replace D4:=kb D4 hb;replace DY:=kb DY hb;replace DG:=kb DG hb;replace HT:=ak (j'.trans HT.1 (j'.fV hb));have B1:=ak im;clear hb im p0 p4
 gi_wp2_with fail
 refine wpIn_rangeFunc_ownF (w:=w6) rfl (by omega) (gf:=115) (lb:= #[.pointer (some ⟨b1,0,none⟩),b2,b0]) rfl trivial (enters_of Tryz.func115 (by kernel_rfl) rfl)
  (Fx (8-1) (by omega) b1 gk ck b0 b2 an4 w6 B1.1 DK.1 K0.1 K1.1) (Kp:=KpT) (fun _ _=>trivial) (fun _ _ _ _ _ _ _ _=>trivial) (Below.refl _ _) (fun x=>x.elim)
  (TwI go w w6) (fun _ _ _=>False) (VS HT.1.size) (fun _ _ _ _ _ h=>h.elim) ⟨HT.1,fun _ _ h _=>h⟩
  (fun x=>x.elim) ?assign ?body ?done ?stop
 case assign=>
  rintro l x;exact x.elim
 case stop=>
  rintro D cx pre W hD J4 h;exact h.elim
 case body=>
  rintro l pre x;exact x.elim
 case done=>
  rintro D ys W hD rfl ⟨i1,i2⟩ hK;have HK:=ak hK;have HD:=ak hD;have HDG:=ak (show go<D by have h1:=LG.1;have h2:=HT.1.size;omega);have HDW:=ak (show w.heap.size≤D by have h2:=HT.1.size;omega);replace D1:=ak (i2 _ _ D1.1 rfl);replace DR:=ak (i2 _ _ DR.1 rfl);replace DA:=ak (i2 _ _ DA.1 rfl);replace DK:=ak (i2 _ _ DK.1 rfl);replace D4:=ak (i2 _ _ D4.1 rfl);replace DY:=ak (i2 _ _ DY.1 rfl);replace DG:=ak (i2 _ _ DG.1 rfl);replace HT:=ak i1;have o0:=(ah DR.1 0).trans X0.1;have o1:=(ah DR.1 1).trans X1.1;have lr:=aN DR.1;have p4:=cL D4;have l4:=aN D4.1;have k0:=(ah DK.1 0).trans K0.1;have lk:=aN DK.1;clear i1 i2 hK hD B1;gi_wp2
  refine wpIn_loop_rounds 2 ?_;rw[roundsIn_succ]
  gi_wp2_with fail
  obtain⟨gb,pL⟩:∃g,g=W.heap.size:=⟨_,rfl⟩;obtain⟨W5,rO⟩:∃X,X=W.alloc (.cells #[.int .i64 0,.int .i64 300] 107):=⟨_,rfl⟩;rw[←rO,←pL];have ud:Below W.heap.size W W5:=by rw[rO];exact ab (Below.refl _ _) _
  have DB:=ak (show W5.heap[gb]? =some (.cells #[.int .i64 0,.int .i64 300] 107 (0,0)) by rw[rO,pL];exact aI _ _);replace D1:=kb D1 ud;replace DA:=kb DA ud;replace DY:=kb DY ud;replace DG:=kb DG ud;replace HT:=ak (j'.trans HT.1 (j'.fV ud));have Yu:=kb HK ud;obtain⟨a8,AD,cd,rfl,hd8,hd9,ag1⟩:=oY (H8.1 _ HT.1) 0 (by decide) (by decide)
  have DD:=ak (show W5.cell? a8=some (.slice AD 300 cd) by
   have h:=hd8;simp only[Int.toNat_zero] at h;rw[show a8.add 0=a8 from by unfold Addr.add;split<;>simp_all] at h;exact h)
  have DC:=ak (show Kd.C (Kd.int .u8) W5 AD (List.replicate 300 (0:Int)).length (List.replicate 300 0) from ag1);clear pL rO ud hd8 hd9 ag1 o0 o1 lr p4 l4 k0 lk;refine OC ?_;refine KX (m:=18) (S:=fun w'=>w'.cell? ⟨w.heap.size,0,none⟩=some (.pointer (some ⟨gy,0,none⟩))∧w'.cell? ⟨gb,0,none⟩=some (.int .i64 0)∧w'.cell? ⟨gy,8,none⟩=some (.slice (some a8) 4 c8)∧w'.cell? ⟨ga,0,none⟩=some (.int .i64 0)∧w'.cell? a8=some (.slice AD 300 cd)) (ds:=[17]) #[false,false,false,false,false,false,false,false,false,false,false,false,false,false,false,false,false,false] (by kernel_rfl) rfl rfl (by kernel_rfl) (by rintro⟨a,w,h⟩;exact h) ⟨cL D1 0,cL DB 0,cL DY 8,(ah DA.1 0).trans A0.1,DD.1⟩ (fun hHeld=>?_);replace D1:=kd D1;replace DB:=kd DB;replace DY:=kd DY;replace DA:=kd DA;replace DG:=kd DG;replace Yu:=kd Yu;replace DD:=ak (show W5.drew.cell? a8=some (.slice AD 300 cd) from DD.1);replace DC:=ak (Kd.cY DC.1);replace HT:=ak (j'.trans HT.1 (j'.drew go _));generalize W5.drew=wx at D1 DB DY DA DG Yu DD DC HT hHeld⊢;refine lq 0 81 hHeld ?_;refine cP 2 83 ?_;refine lq 3 84 hHeld ?_;refine cP 4 85 ?_;simp only[fi];refine lq 6 87 hHeld ?_;refine cP 7 88 ?_;refine cP 8 89 ?_;refine cP 9 90 ?_;refine lq 10 91 hHeld ?_;refine cP 11 92 ?_;refine cP 12 93 ?_;refine cP 13 94 ?_;refine lq 14 95 hHeld ?_;refine cP 15 96 ?_;refine lq 16 97 hHeld ?_;refine kD 1 82 fun K hK=>?_;refine pN Tryz.func67 #[.pointer (some ⟨gy,0,none⟩)] ?_;have hc:=BC gy go _ 152 10240 _ DY.1 rfl rfl (by decide) (by decide) (by decide);simp only[show Int.toNat 152*64=9728 from rfl,show 10240-9728=512 from rfl] at hc;refine hc.mono ?_;clear hc;rintro e w5 ⟨rfl,hd⟩;have hb:=hd.below;refine⟨_,rfl,?_⟩;replace D1:=kb D1 hb;replace DB:=kb DB hb;replace DY:=kb DY hb;replace DA:=kb DA hb;replace DG:=kb DG hb;replace Yu:=kb Yu hb;replace DD:=ak (gv hb DD.1);replace DC:=Cb DC hb;replace HT:=ak (j'.trans HT.1 (j'.fV hb));clear hd hb hHeld;refine ft hK (fun hHeld=>?_) ⟨cL D1 0,cL DB 0,cL DY 8,(ah DA.1 0).trans A0.1,DD.1⟩;clear hK K;refine cP 5 86 ?_;refine qL (i:=17) (N:=some 98) #[true,true,true,true,true,true,true,true,true,true,true,true,true,true,true,true,true,true] rfl rfl (by kernel_rfl) (by decide) (fun K hK=>?_);refine Fy (by rintro⟨a,w,h⟩;exact h) ?_;refine sF rfl (.tmp 86) (.tmp 97) 33 33 rfl Tryz.underlying33 (by kernel_rfl) go 9728 512 512 cd (fc L 8064 VR) (List.replicate 300 0) AD (some ⟨go,9728,none⟩) rfl (fun _=>rfl) rfl DG.1 DC.1 (by decide) (by rw[ed (by rw[uf,hL];decide),hL];decide) ?_;intro w7 pB Kr;refine hK.out _ _ ?_;clear hK K;refine nm_ ?_;refine gF (by kernel_rfl) ?_;simp only[Yt];replace Yu:=ak (j'.eS Kr.1 Yu.1 (ow HDG));replace HT:=ak (j'.trans HT.1 Kr.1);clear DG DC DD hHeld;gi_wp2
  rw[roundsIn_succ];gi_wp2
  refine⟨by simp,.inl ⟨_,_,rfl,run_takeDeferred Yu.1,?_⟩⟩;refine⟨.tuple #[],?_,rfl,(World.putObj_heap_other (ow HDG)).trans pB.1,?_⟩
  ·simp [results,Tryz.f33,go_sem]
  ·exact⟨HT.1.os,HT.1.tape,HT.1.output,by simpa [World.putObj] using HT.1.size,fun k hk mA=>(World.putObj_heap_other (ow HDW)).trans (HT.1.block k hk mA)⟩
end Go.Proofs.YtmhdcgmfbjcndaaGreatDoor.P
namespace Go.Proofs.YtmhdcgmfbjcndaaGreatDoor.P
open Go.RowKit Go.Proofs.aa.ag Go.Proofs.aa.ao Go.Proofs.aa.ay
attribute [local go_sem↓] Go.wp_at_zero Go.wp_at_succ
theorem abD:aT.f 20 2 4 2 60 2 2 mG pO rK=some true:=by kernel_rfl
theorem KY:ei.f 20 2 4 2 60=some (1,2,60,122,123,125,126,152,160,0):=by kernel_rfl
def Z1:List Int:=List.replicate 10240 0
def vi:List Int:=fc (fc (fc (uZ Z1) 7808 kC) 8064 VR) 9728 (List.replicate 300 0)
theorem Fz(N:Nat)(hN:N≤262144)(w:World):(Instr.makeSlice 33 (.int .i64 N) (.int .i64 N)).run Tryz.prog w= .ok (.slice (some ⟨w.heap.size,0,none⟩) N N) (w.alloc (.cells (Array.replicate N (.int .u8 0)) 5)):=by
 obtain⟨i0,td,yY,qC,uh⟩:=info_parts kG;have h:=run_make (P:=Tryz.prog) (w:=w) 33 5 i0 (.int .u8 0) Tryz.underlying33 td yY .i64 .i64 (N:Int) (N:Int) (by omega) (by omega) (by rw[uh];omega) (by omega);simp only[Int.toNat_natCast] at h;rw[h,qC,Nat.mul_one]
 congr 3
 apply Array.ext';unfold madeCells;simp only[Value.cells,Array.toList_ofFn,List.size_toArray,List.length_singleton,Nat.mod_one];apply List.ext_getElem
 ·simp
 ·intro i h1 h2;simp
theorem KZ:wrap64 10240=10240:=by unfold Go.RowKit.wrap64;omega
theorem sy:Z1.length=10240:=List.length_replicate ..
theorem u1:(uZ Z1).length=10240:=by
 rw[uZ,ed (by rw[ed (by rw[kv,ed (by rw[fF,sy];decide),sy];decide),ed (by rw[fF,sy];decide),sy];decide),ed (by rw[kv,ed (by rw[fF,sy];decide),sy];decide),ed (by rw[fF,sy];decide),sy]
theorem Sd:(fc (uZ Z1) 7808 kC).length=10240:=by rw[ed (by rw[Fp,u1];decide),u1]
theorem Se:Obj.cells (Array.replicate 10240 (.int .u8 0)) 5=cS Z1:=by
 rw[Z1];generalize 10240=n;simp only[cS,nums,List.map_replicate];rw[List.toArray_replicate]
theorem FA(w:World):(Instr.makeSlice 33 (.int .i64 10240) (.int .i64 10240)).run Tryz.prog w= .ok (.slice (some ⟨w.heap.size,0,none⟩) 10240 10240) (w.alloc (cS Z1)):=by
 rw[←Se];exact Fz 10240 (by decide) w
theorem xc(A6:Option Addr)(c6:Nat)(A7:Option Addr)(c7:Nat)(A8:Option Addr)(c8:Nat)(w:World)
 (h6:Kd.C gW w A6 mG.length mG) (om:mG.length≤c6) (h7:Kd.C gQ w A7 pO.length pO) (lY:pO.length≤c7) (h8:Kd.C (Kd.slice 5 (Kd.int .u8)) w A8 rK.length rK) (nT:rK.length≤c8):
 Calls Tryz.prog 12 #[.agg #[.int .i64 2,.int .i64 4,.int .i64 2,.int .i64 60,.int .i64 2,.int .i64 2,.slice A6 4 c6,.slice A7 2 c7,.slice A8 4 c8]] w fun e w'=>∃g:Nat,e= .returned (.tuple #[.slice (some ⟨g,0,none⟩) 10240 10240,.int .i64 0])∧w.heap.size≤g∧w'.heap[g]? =some (cS vi)∧Below w.heap.size w w':=by
 obtain⟨W1,fI⟩:∃X,X=w.alloc (.cells #[.int .i64 2,.int .i64 4,.int .i64 2,.int .i64 60,.int .i64 2,.int .i64 2,.slice A6 4 c6,.slice A7 2 c7,.slice A8 4 c8] 28):=⟨_,rfl⟩;have xo:=ak fI;have HB:=ak (show Below w.heap.size w W1 by rw[fI];exact ab (Below.refl _ _) _);have D1:=ak (show W1.heap[w.heap.size]? =some (.cells #[.int .i64 2,.int .i64 4,.int .i64 2,.int .i64 60,.int .i64 2,.int .i64 2,.slice A6 4 c6,.slice A7 2 c7,.slice A8 4 c8] 28 (0,0)) by rw[fI];exact aI w _);have H6:=ak h6;have H7:=ak h7;have H8:=ak h8;clear fI h6 h7 h8;have y0:=cL D1 0;have y1:=cL D1 1;have y2:=cL D1 2;have y3:=cL D1 3;have y4:=cL D1 4;have y5:=cL D1 5;have y6:=cL D1 6;have y7:=cL D1 7;have y8:=cL D1 8;have ly:=aN D1.1;go_enter Tryz.func12,Tryz.ntmps12
 go_wp2_with((with_reducible refine ma (N:=9) rfl ?_);rw[←xo.1])
 refine(aT.calls 20 2 4 2 60 2 2 A6 c6 mG A7 c7 pO A8 c8 rK true _ (Kd.aj H6.1 HB.1) om (Kd.aj H7.1 HB.1) lY (Kd.aj H8.1 HB.1) nT abD).mono ?_;rintro e w2 ⟨rfl,hb⟩;replace D1:=kb D1 hb;replace HB:=sb HB hb;clear hb;replace y0:=cL D1 0;replace y1:=cL D1 1;replace y2:=cL D1 2;replace y3:=cL D1 3;replace y4:=cL D1 4;replace y5:=cL D1 5;replace y6:=cL D1 6;replace y7:=cL D1 7;replace y8:=cL D1 8;replace ly:=aN D1.1
 go_wp2_with fail
 refine(ei.calls 20 2 4 2 60 1 2 60 122 123 125 126 152 160 0 _ KY).mono ?_;rintro e w3 ⟨rfl,hb⟩;replace D1:=kb D1 hb;replace HB:=sb HB hb;clear hb y0 y1 y2 y3 y4 y5 y6 y7 y8 ly
 go_wp2_with fail
 obtain⟨g4,rP⟩:∃g,g=w3.heap.size:=⟨_,rfl⟩;obtain⟨W4,Cu⟩:∃X,X=w3.alloc (.cells #[.int .i64 1,.int .i64 2,.int .i64 60,.int .i64 122,.int .i64 123,.int .i64 125,.int .i64 126,.int .i64 152,.int .i64 160] 82):=⟨_,rfl⟩;rw[←Cu,←rP];have vh:Below w3.heap.size w3 W4:=by rw[Cu];exact ab (Below.refl _ _) _
 have D4:=ak (show W4.heap[g4]? =some (.cells #[.int .i64 1,.int .i64 2,.int .i64 60,.int .i64 122,.int .i64 123,.int .i64 125,.int .i64 126,.int .i64 152,.int .i64 160] 82 (0,0)) by rw[Cu,rP];exact aI _ _);have N4:=ak (show w.heap.size<g4 by rw[rP];exact aN D1.1);replace D1:=kb D1 vh;replace HB:=sb HB vh;clear Cu rP vh;refine eW (n:=9) (S:=fun w'=>w'.cell? ⟨w.heap.size,0,none⟩=some (.int .i64 2)∧w'.cell? ⟨w.heap.size,1,none⟩=some (.int .i64 4)∧w'.cell? ⟨w.heap.size,2,none⟩=some (.int .i64 2)∧w'.cell? ⟨w.heap.size,3,none⟩=some (.int .i64 60)∧w'.cell? ⟨w.heap.size,4,none⟩=some (.int .i64 2)∧w'.cell? ⟨w.heap.size,5,none⟩=some (.int .i64 2)∧w'.cell? ⟨w.heap.size,6,none⟩=some (.slice A6 4 c6)∧w'.cell? ⟨w.heap.size,7,none⟩=some (.slice A7 2 c7)∧w'.cell? ⟨w.heap.size,8,none⟩=some (.slice A8 4 c8)∧w'.cell? ⟨g4,0,none⟩=some (.int .i64 1)∧w'.cell? ⟨g4,1,none⟩=some (.int .i64 2)∧w'.cell? ⟨g4,2,none⟩=some (.int .i64 60)∧w'.cell? ⟨g4,3,none⟩=some (.int .i64 122)∧w'.cell? ⟨g4,4,none⟩=some (.int .i64 123)∧w'.cell? ⟨g4,5,none⟩=some (.int .i64 125)∧w'.cell? ⟨g4,6,none⟩=some (.int .i64 126)∧w'.cell? ⟨g4,7,none⟩=some (.int .i64 152)∧w'.cell? ⟨g4,8,none⟩=some (.int .i64 160)) (ds:=[7]) #[false,false,false,false,false,false,false,false,false] (by kernel_rfl) rfl rfl ⟨cL D1 0,cL D1 1,cL D1 2,cL D1 3,cL D1 4,cL D1 5,cL D1 6,cL D1 7,cL D1 8,cL D4 0,cL D4 1,cL D4 2,cL D4 3,cL D4 4,cL D4 5,cL D4 6,cL D4 7,cL D4 8⟩ (fun hHeld=>?_);replace D1:=kd D1;replace D4:=kd D4;replace HB:=sd HB;generalize W4.drew=wx at D1 D4 HB hHeld⊢;refine lq 0 18 hHeld ?_;refine lq 1 19 hHeld ?_;refine cP 2 20 ?_;refine lq 3 21 hHeld ?_;refine cP 4 22 ?_;refine kD 5 23 fun K hK=>?_;refine Dl (v:= .slice (some ⟨wx.heap.size,0,none⟩) 10240 10240) (w1:=wx.alloc (cS Z1)) (by rfl) rfl ?_ ?_
 ·have hr:=FA wx;simp [execOp,Act.eval,KZ,hr,Result.andThen]
 obtain⟨go,Lh⟩:∃g,g=wx.heap.size:=⟨_,rfl⟩;obtain⟨wy,hwy⟩:∃X,X=wx.alloc (cS Z1):=⟨_,rfl⟩;rw[←hwy,←Lh];have hb:Below wx.heap.size wx wy:=by rw[hwy];exact ab (Below.refl _ _) _
 have DG:=ak (show wy.heap[go]? =some (cS Z1) by rw[hwy,Lh];exact aI _ _);have HG:=ak (show w.heap.size≤go by rw[Lh];exact HB.1.size);have HG4:=ak (show w.heap.size<go by rw[Lh];exact aN D1.1);replace D1:=kb D1 hb;replace D4:=kb D4 hb;replace HB:=sb HB hb;clear hwy Lh hb hHeld;refine ft hK (fun hHeld=>?_);clear hK K;refine cP 6 24 ?_;refine qL (i:=7) (N:=some 25) #[true,true,true,true,true,true,true,true,false] rfl rfl (by kernel_rfl) (by decide) (fun K hK=>?_);refine nQ ?_;refine hK.out _ _ ?_;clear hK K hHeld;refine nm_ ?_;refine cP 8 6 ?_;refine gF (by kernel_rfl) ?_;obtain⟨gy,Xa⟩:∃g,g=wy.heap.size:=⟨_,rfl⟩;obtain⟨W5,rO⟩:∃X,X=wy.alloc (.cells (Ym A6 c6 A7 c7 A8 c8 go) 87):=⟨_,rfl⟩;rw[←rO,←Xa];have ud:Below wy.heap.size wy W5:=by rw[rO];exact ab (Below.refl _ _) _
 have DY:=ak (show W5.heap[gy]? =some (.cells (Ym A6 c6 A7 c7 A8 c8 go) 87 (0,0)) by rw[rO,Xa];exact aI _ _);replace DG:=kb DG ud;replace HB:=sb HB ud;clear rO Xa ud D1 D4;go_wp2;obtain⟨gf,hgf⟩:∃g,g=W5.heap.size:=⟨_,rfl⟩;obtain⟨W6,tE⟩:∃X,X=W5.alloc (.cells #[.func (.func 31) #[.pointer (some ⟨gy,0,none⟩)] #[],.func (.func 32) #[.pointer (some ⟨gy,0,none⟩)] #[],.func (.func 33) #[.pointer (some ⟨gy,0,none⟩)] #[]] 1):=⟨_,rfl⟩;rw[←tE,←hgf];have mz:Below W5.heap.size W5 W6:=by rw[tE];exact ab (Below.refl _ _) _
 have DF:=ak (show W6.heap[gf]? =some (.cells #[.func (.func 31) #[.pointer (some ⟨gy,0,none⟩)] #[],.func (.func 32) #[.pointer (some ⟨gy,0,none⟩)] #[],.func (.func 33) #[.pointer (some ⟨gy,0,none⟩)] #[]] 1 (0,0)) by rw[tE,hgf];exact aI _ _);replace DG:=kb DG mz;replace DY:=kb DY mz;replace HB:=sb HB mz;have NFG:=ak (show gf≠go from dQ DF.1 DG.1 (by decide));have Ti:=ak (show gy≠go from dQ DY.1 DG.1 (by decide));clear tE hgf mz;have q0:=cL DF 0;have q1:=cL DF 1;have q2:=cL DF 2;refine wp_loop_rounds 4 ?_;rw[rounds_succ]
 go_wp2_with fail
 refine(IB A6 c6 A7 c7 A8 c8 gy go Z1 sy _ DY.1 DG.1 (Kd.aj H6.1 HB.1) om (Kd.aj H7.1 HB.1) lY).mono ?_;rintro e v1 ⟨rfl,hg,hb⟩;replace DF:=ak (j'.eS hb DF.1 NFG.1);replace DY:=ak (j'.eS hb DY.1 Ti.1);replace DG:=ak hg;replace HB:=ak (j'.below hb HB.1 HG.1);clear hg hb;replace q0:=cL DF 0;replace q1:=cL DF 1;replace q2:=cL DF 2;go_wp2;rw[rounds_succ]
 go_wp2_with fail
 refine(Ox A6 c6 A7 c7 A8 c8 gy go (uZ Z1) u1 _ DY.1 DG.1 (Kd.aj H6.1 HB.1) om (Kd.aj H7.1 HB.1) lY (Kd.aj H8.1 HB.1) nT).mono ?_;rintro e v2 ⟨rfl,hg,hb⟩;replace DF:=ak (j'.eS hb DF.1 NFG.1);replace DY:=ak (j'.eS hb DY.1 Ti.1);replace DG:=ak hg;replace HB:=ak (j'.below hb HB.1 HG.1);clear hg hb;replace q0:=cL DF 0;replace q1:=cL DF 1;replace q2:=cL DF 2;go_wp2;rw[rounds_succ]
 go_wp2_with fail
 refine(OD A6 c6 A7 c7 A8 c8 gy go (fc (uZ Z1) 7808 kC) Sd _ DY.1 DG.1 (fun W hW=>Kd.aj H6.1 (j'.below hW HB.1 HG.1)) om (fun W hW=>Kd.aj H7.1 (j'.below hW HB.1 HG.1)) lY (fun W hW=>Kd.aj H8.1 (j'.below hW HB.1 HG.1)) nT).mono ?_;rintro e v3 ⟨rfl,hg,hb⟩;replace DF:=ak (j'.eS hb DF.1 NFG.1);replace DY:=ak (j'.eS hb DY.1 Ti.1);replace DG:=ak hg;replace HB:=ak (j'.below hb HB.1 HG.1);clear hg hb;replace q0:=cL DF 0;replace q1:=cL DF 1;replace q2:=cL DF 2;go_wp2;have yo:=cL DY;rw[rounds_succ];go_wp2;go_ret2;exact⟨go,rfl,HG.1,DG.1,HB.1⟩
theorem pG{W:World}{g o n:Nat}{L M:List Int}(h:W.heap[g]? =some (cS L))(hM:(L.drop o).take n=M)(hn:M.length=n)(hl:n≤262144):Kd.C (Kd.int .u8) W (some ⟨g,o,none⟩) n M:=by
 refine⟨hn,by omega,fun _=>⟨_,rfl,fun j p hj=>⟨[.int .u8 p],rfl,rfl,fun i u hu=>?_⟩⟩⟩;cases i with
 |zero=>
  simp only[List.getElem?_cons_zero,Option.some.injEq] at hu;subst hu;rw[←hM,List.getElem?_take] at hj;split at hj
  ·rw[List.getElem?_drop] at hj;rw[show(Kd.int .u8).sz=1 from rfl,Nat.mul_one,Nat.add_zero];simp only[Addr.add];split
   ·subst_vars
    rw[ah h];simp only[Nat.add_zero] at hj;simp [nums,hj]
   ·rw[ah h];simp [nums,hj]
  ·cases hj
 |succ i=>simp at hu
theorem eq_self(l:List Int):eM.f l l=some true:=by simp [eM.f]
theorem Sf:BU.take 56=Oq:=by decide+kernel
theorem ag2(A:Option Addr)(c:Nat)(w:World)(hC:Kd.C (Kd.int .u8) w A 64 BU)(hc:64≤c):
 Calls Tryz.prog 121 #[.slice A 64 c] w fun e w'=>∃v0:Value,e= .returned (.tuple #[v0,.bool true])∧Kd.R (Kd.int .u8) 5 w' w.heap.size (fun _=>True) v0 Oq∧Below w.heap.size w w':=by
 have MA:Kd.C (Kd.int .u8) w A BU.length BU:=by rw[fF];exact hC
 have h56:=Kd.xu (m:=56) MA (by rw[fF];decide);rw[Sf,mr] at h56;have HC:=ak hC;have H56:=ak h56;clear hC MA h56;go_enter Tryz.func121,Tryz.ntmps121
 go_wp2_with fail
 refine(Yb A c _ H56.1 (by omega)).mono ?_;rintro e w1 ⟨v0,rfl,hr,hb⟩;obtain⟨A1,c1,rfl⟩:=Kd.bm hr;have HR:=ak (Kd.aW hr).2;rw[fF] at HR⊢;have HB:=ak hb;replace HC:=Cb HC hb;replace H56:=Cb H56 hb;clear hr hb
 go_wp2_with fail
 have he:=eM.calls A1 c1 BU A c BU true w1 (by rw[fF];exact HR.1.2) (by rw[fF];exact HR.1.1) (by rw[fF];exact HC.1) (by rw[fF];exact hc) (eq_self BU);rw[fF] at he;refine he.mono ?_;clear he;rintro e w2 ⟨rfl,hd⟩;have hb:=hd.below;replace HB:=sb HB hb;replace H56:=Cb H56 hb;clear hd hb
 go_wp2_with fail
 have oK:=dv.calls A c Oq Oq w2 (by rw[mr];exact H56.1) (by rw[mr];omega) (by unfold dv.f;rw[if_pos (by rw[mr];decide)]);rw[mr] at oK;refine oK.mono ?_;clear oK;rintro e w3 ⟨v3,rfl,hr,hb⟩;have HR3:=ak (Kd.bO hr (aq HB.1));replace HB:=sb HB hb;clear hr hb;go_wp2;go_ret2;exact⟨_,rfl,HR3.1,HB.1⟩
theorem aoc:ej.f 200 Oq=some (SW1,true):=by decide+kernel
theorem IM{W:World}{base:Nat}{ok:Nat→Prop}{v:Value}{l:List Int}(h:Kd.R (Kd.int .i64) 3 W base ok v l)(hp:0<l.length):∃(g cap:Nat)(cur:Array Value),v= .slice (some ⟨g,0,none⟩) l.length cap∧base≤g∧W.heap[g]? =some (.cells cur 3 (0,0))∧∀(i:Nat)(x:Int),l[i]? =some x→cur[i]? =some (.int .i64 x):=by
 obtain⟨_,inner,ho,hr⟩:=h;obtain⟨g,cap,cur,rfl,hb,hh,hc,yR⟩:=jn ho hp;refine⟨g,cap,cur,rfl,hb,hh,fun i x hi=>yR _ _ ?_⟩;have hm:(inner.drop (i*1)).take 1=[.int .i64 x]:=(Kd.int .i64).gh (hr.2 i x hi);have:=congrArg (fun l=>l[0]?) hm;simpa [List.getElem?_take] using this
theorem YB(A:Option Addr)(c:Nat)(w:World)(hC:Kd.C (Kd.int .u8) w A 64 BU)(hc:64≤c):
 Calls Tryz.prog 72 #[.slice A 64 c] w fun e w'=>e= .returned (.tuple #[.agg #[.int .i64 2,.int .i64 4,.int .i64 2,.int .i64 60],.int .i64 2,.int .i64 2,.bool true])∧Below w.heap.size w w':=by
 obtain⟨W1,fI⟩:∃X,X=w.alloc (.cells #[.int .i64 0,.int .i64 0,.int .i64 0,.int .i64 0] 23):=⟨_,rfl⟩;have xo:=ak fI;have HB:=ak (show Below w.heap.size w W1 by rw[fI];exact ab (Below.refl _ _) _);have D2:=ak (show W1.heap[w.heap.size]? =some (.cells #[.int .i64 0,.int .i64 0,.int .i64 0,.int .i64 0] 23 (0,0)) by rw[fI];exact aI w _);have HC:=ak (Kd.aj hC HB.1);have HW0:=ak hC;clear fI hC;go_enter Tryz.func72,Tryz.ntmps72
 go_wp2_with fail
 rw[←xo.1];refine(ag2 A c _ HC.1 hc).mono ?_;rintro e w2 ⟨v0,rfl,hr,hb⟩;obtain⟨A1,c1,rfl⟩:=Kd.bm hr;have HV:=ak (Kd.R_V (base':=w2.heap.size) hr);replace HC:=Cb HC hb;replace D2:=kb D2 hb;replace HB:=sb HB hb;clear hr hb
 go_wp2_with fail
 refine(ej.calls 200 (fun _=>True) A1 c1 Oq SW1 true _ HV.1 aoc).mono ?_;rintro e w3 ⟨v1,rfl,hr,hb⟩;obtain⟨gw,cw,cur,rfl,hgw,OE,ui⟩:=IM hr (by decide);simp only[show SW1.length=7 from rfl];have GW:=ak (Nat.le_trans HB.1.size hgw);replace HC:=Cb HC hb;replace D2:=kb D2 hb;replace HB:=sb HB hb;have DW:=ak OE;have CU:=ak ui;have x1:=(ah OE 1).trans (ui 1 _ rfl);have x2:=(ah OE 2).trans (ui 2 _ rfl);have x3:=(ah OE 3).trans (ui 3 _ rfl);have x4:=(ah OE 4).trans (ui 4 _ rfl);have x5:=(ah OE 5).trans (ui 5 _ rfl);have x6:=(ah OE 6).trans (ui 6 _ rfl);have d0:=cL D2;have f2:=fun i=>bn D2.1 i;have ng:w.heap.size≠gw:=dQ D2.1 OE (by decide);clear hr hb hgw OE ui
 go_wp2_with fail
 go_region
 go_wp2_with fail
 go_region
 obtain⟨V,hV⟩:∃X,X=((((w3.setCell ⟨w.heap.size,0,none⟩ (.int .i64 2)).setCell ⟨w.heap.size,1,none⟩ (.int .i64 4)).setCell ⟨w.heap.size,2,none⟩ (.int .i64 2)).setCell ⟨w.heap.size,3,none⟩ (.int .i64 60)).drew.drew:=⟨_,rfl⟩;rw[←hV]
 have hk:∀k,k≠w.heap.size→V.heap[k]? =w3.heap[k]? :=fun k h=>by
  rw[hV];exact(ua _ k).trans ((ua _ k).trans ((Below.heap_setCell _ _ _ _ h).trans ((Below.heap_setCell _ _ _ _ h).trans ((Below.heap_setCell _ _ _ _ h).trans (Below.heap_setCell _ _ _ _ h)))))
 have oL:V.heap.size=w3.heap.size:=by rw[hV];simp only[World.drew,World.setCell,Array.size_modify]
 have E2:=ak (show V.heap[w.heap.size]? =some (.cells #[.int .i64 2,.int .i64 4,.int .i64 2,.int .i64 60] 23 (0,0)) by rw[hV];exact aY (aY (aQ (aQ (aQ (aQ D2.1 0 _ rfl) 1 _ rfl) 2 _ rfl) 3 _ rfl)))
 have EB:=ak (show Below w.heap.size w V by
  rw[hV];exact dF (dF (aH (aH (aH (aH HB.1 (Nat.le_refl _)) (Nat.le_refl _)) (Nat.le_refl _)) (Nat.le_refl _))))
 have EC:=ak (Kd.aj HW0.1 EB.1);clear hV hk oL D2 HB HC d0 f2 x1 x2 x3 x4 x5 x6;have d0:=cL E2
 go_wp2_with fail
 refine(RL _).mono ?_;rintro e w4 ⟨v4,rfl,hr,hb⟩;obtain⟨A4,c4,rfl⟩:=Kd.bm hr;have HR4:=ak (Kd.aW hr).2;rw[fF] at HR4⊢;replace E2:=kb E2 hb;replace EB:=sb EB hb;clear hr hb d0
 go_wp2_with fail
 have he:=eM.calls A4 c4 BU A c BU true w4 (by rw[fF];exact HR4.1.2) (by rw[fF];exact HR4.1.1) (by rw[fF];exact Kd.aj HW0.1 EB.1) (by rw[fF];exact hc) (eq_self BU);rw[fF] at he;refine he.mono ?_;clear he;rintro e w5 ⟨rfl,hd⟩;have hb:=hd.below;replace E2:=kb E2 hb;replace EB:=sb EB hb;clear hd hb;have d0:=cL E2;have f0:=fZ E2 0;have f1:=fZ E2 1;have f2:=fZ E2 2;have f3:=fZ E2 3;go_wp2;refine bodyPost_ret (ek (rs:=[.cell 2 23,.tmp 3,.tmp 4,.tmp 5]) rfl (by simp) (.cell w.heap.size 23 _ (0,0) _ rfl (aQ (aQ (aQ (aQ E2.1 0 _ rfl) 1 _ rfl) 2 _ rfl) 3 _ rfl) Tryz.underlying23 rfl (by kernel_rfl) (.tmp (.tmp (.tmp .nil))))) rfl ?_;exact⟨rfl,aH (aH (aH (aH EB.1 (Nat.le_refl _)) (Nat.le_refl _)) (Nat.le_refl _)) (Nat.le_refl _)⟩
end Go.Proofs.YtmhdcgmfbjcndaaGreatDoor.P
