import Derived.Test.YtmhdcgmfbjcndaaGreatDoorB10
set_option linter.unusedVariables false
set_option linter.unusedSimpArgs false
set_option maxRecDepth 100000
set_option maxHeartbeats 8000000
namespace Go.Proofs.YtmhdcgmfbjcndaaGreatDoor.P
open Go.RowKit Go.Proofs.aa.ag Go.Proofs.aa.ao Go.Proofs.aa.ay
attribute [local go_sem] bD bw cj bV bj bk bG bH
def dG.l0:Nat→List fl→List Int→List cU→Int→Int→Option ((List fl)×List Int)
 |0,_,_,_,_,_=>none
 |k+1,x4,x5,x9,sN,u'=>if u'<sN then(if 0≤u' then(if u'<(x9.length:Int) then(if(aM x9 u').f1=true then(if(aM x9 u').f2=true then(if x4.length<8796093022208 then(if x5.length<17592186044416 then(dG.l0 k (x4++[(⟨(aM x9 u').f3,(aM x9 u').f4⟩:fl)]) (x5++[u']) x9 sN (wrap64 (u'+1))) else none) else none) else dG.l0 k x4 x5 x9 sN (wrap64 (u'+1))) else dG.l0 k x4 x5 x9 sN (wrap64 (u'+1))) else none) else none) else some (x4,x5)
def dG.f(k:Nat)(az ax aA aC aV aX:Int)(aw:List cU)(aD:List dJ)(aG:List (List Int)):Option ((List fl)×List Int):=dG.l0 k ([]:List fl) ([]:List Int) aw (aw.length:Int) 0
theorem dG.calls(k:Nat)(az ax aA aC aV aX:Int)(cN:Option Addr)(cF:Nat)(aw:List cU)(cy:Option Addr)(cA:Nat)(aD:List dJ)(cC:Option Addr)(cB:Nat)(aG:List (List Int))(r1:List fl)(r2:List Int)(w:World)(dZ:Kd.C gW w cN aw.length aw)(ef:aw.length≤cF)(eb:Kd.C gQ w cy aD.length aD)(en:aD.length≤cA)(dL:Kd.C (Kd.slice 5 (Kd.int .u8)) w cC aG.length aG)(ew:aG.length≤cB)(h:dG.f k az ax aA aC aV aX aw aD aG=some (r1,r2)):
 Calls Tryz.prog 21 #[.agg #[.int .i64 az,.int .i64 ax,.int .i64 aA,.int .i64 aC,.int .i64 aV,.int .i64 aX,.slice cN aw.length cF,.slice cy aD.length cA,.slice cC aG.length cB]] w fun e w'=>∃kT v1_:Value,e= .returned (.tuple #[kT,v1_])∧Kd.R uM 107 w' w.heap.size (fun _=>True) kT r1∧Kd.R (Kd.int .i64) 3 w' w.heap.size (fun _=>True) v1_ r2∧Below w.heap.size w w':=by
 have Ba:=Tryz.underlying28;have D':=Tryz.underlying43;have aqy:=Tryz.underlying107;have fD:=ak dZ;have i':=ak ef;clear dZ ef;have iw:=ak eb;have ji:=ak en;clear eb en;have ix:=ak dL;have jS:=ak ew;clear dL ew;have HB:=ak (Below.refl w.heap.size w);have H:=ak h;clear h;unfold dG.f at H;go_enter Tryz.func21,Tryz.ntmps21
 go_wp2_with((with_reducible refine gd 1 ?_);refine bY 28 #[.int .i64 az,.int .i64 ax,.int .i64 aA,.int .i64 aC,.int .i64 aV,.int .i64 aX,.slice cN aw.length cF,.slice cy aD.length cA,.slice cC aG.length cB] fun Qz w2 fG aeL HB=>?_;obtain⟨QA,QB⟩:=cf fG)
 go_loopg [4,5,11] k (fun kq v4 v5 v11 w'=>∃(jG:List fl)(sO:List Int)(dV:Int),v11= .int .i64 dV∧ae (dG.l0 kq jG sO aw (aw.length:Int) dV=some (r1,r2))∧ae (kq≤k)∧ae (Kd.R uM 107 w' w.heap.size (fun _=>True) v4 jG)∧ae (Kd.R (Kd.int .i64) 3 w' w.heap.size (fun _=>True) v5 sO)∧ae (w'.heap[Qz]? =some (.cells #[.int .i64 az,.int .i64 ax,.int .i64 aA,.int .i64 aC,.int .i64 aV,.int .i64 aX,(.slice cN aw.length cF),(.slice cy aD.length cA),(.slice cC aG.length cB)] 28 (0,0)))∧ae (Below w.heap.size w w'))
 case atStart=>exact⟨(([]:List fl)),(([]:List Int)),0,rs,H,⟨Nat.le_refl _⟩,⟨kn⟩,⟨kn⟩,⟨bu fG⟩,⟨bl⟩⟩
 case round=>
  clear H;obtain⟨jG,sO,dV,rfl,H,iB,dI,iA,fG,HB⟩:=hrel;cases gk with
  |zero=>exact absurd H.1 (by simp [dG.l0])
  |succ k1=>
   simp only[dG.l0] at H;replace H:=ic H;rcases H with⟨jP,H⟩|⟨jP,H⟩
   ·replace H:=iO H;obtain⟨iG,H⟩:=H;replace H:=iO H;obtain⟨lu,H⟩:=H;obtain⟨bq7,qF⟩:=nm ((aM aw dV).f1);rw[←qF.1] at H;replace H:=ib H;rcases H with⟨rfl,H⟩|⟨rfl,H⟩
    ·obtain⟨bq9,Bc⟩:=nm ((aM aw dV).f2);rw[←Bc.1] at H;replace H:=ib H;rcases H with⟨rfl,H⟩|⟨rfl,H⟩
     ·replace H:=iQ H;obtain⟨QC,H⟩:=H;obtain⟨alN,Xr⟩:=nm (jG++[(⟨(aM aw dV).f3,(aM aw dV).f4⟩:fl)]);rw[←Xr.1] at H;replace H:=iQ H;obtain⟨G9,H⟩:=H;obtain⟨alO,Xs⟩:=nm (sO++[dV]);rw[←Xs.1] at H;obtain⟨G',Bd,wz,jI,jJ,wA,wB⟩:=gq (cw fD) dV dt dt;(try rw[←qF.1] at jI);(try rw[←Bc.1] at jI);(try rw[←qF.1] at jJ);(try rw[←Bc.1] at jJ);cases Bd;have QD:=tp (0≤(dV:Int));have QE:=tp (dV<(aw.length:Int))
      go_wp2_with(first|((with_reducible refine gd 7 ?_);refine bX 43 #[.int .i64 0,.bool false,.bool false,.int .i64 0,.int .i64 0] fun Ha WW iD Hb HB hg hb=>?_;replace dI:=qr dI hb;replace iA:=qr iA hb;obtain⟨jj,jk⟩:=nn fG hg;replace fG:=qk fG hb;clear hb hg;have Xi:=jk.1;have Xj:=jj.1;obtain⟨ni,nj⟩:=cf iD)|((with_reducible refine dm (b:= .append) (xs:= #[.tmp 22,.tmp 28]) rfl ?_);at_builtin;refine Kd.jO uM (w0:=w) w.heap.size rfl (.tmp 22) (.tmp 28) 67 107 (.agg #[(.int .i64 0),(.int .i64 0)]) 16 rfl Tryz.underlying67 TJ rfl (by decide) (by omega) u4 jG (⟨(aM aw dV).f3,(aM aw dV).f4⟩:fl) [.int .i64 ((aM aw dV).f3),.int .i64 ((aM aw dV).f4)] (fun _=>True) (fun _=>False) rfl (by first|(go_simp;done)|(go_simp;rfl)) ?aP (fun _ hk=>hk.elim) ?aF ?aO ?aB ?aS ?aL ?_;(case aP=>exact Pv _ _ _ (⟨(aM aw dV).f3,(aM aw dV).f4⟩:fl));(case aB=>exact bl);(case aF=>exact(fun _ _=>trivial));(case aO=>exact(rT dI iD));(case aS=>exact(aq bl));(case aL=>have:=QC.1;omega);intro v171 M9 ho hb hg dH;rw[←Xr.1] at ho;replace iA:=ak (Kd.kg (rt iA iD) (Kd.gz (rt dI iD)) (by decide) hg);replace fG:=pg fG hg (Kd.jA dI.1 fG.1 (by decide));replace iD:=pg iD hg (Kd.jA dI.1 iD.1 (by decide));replace HB:=ak (hb);have QF:=ak (ho);clear dI;clear ho hb hg dH)|((with_reducible refine dm (b:= .append) (xs:= #[.tmp 30,.tmp 32]) rfl ?_);at_builtin;refine Kd.jO (Kd.int .i64) (w0:=w) w.heap.size rfl (.tmp 30) (.tmp 32) 68 3 (.int .i64 0) 8 rfl Tryz.underlying68 pT rfl (by decide) (by omega) u5 sO dV [.int .i64 dV] (fun _=>True) (fun _=>False) rfl rfl ?aP (fun _ hk=>hk.elim) ?aF ?aO ?aB ?aS ?aL ?_;(case aP=>exact rfl);(case aB=>exact bl);(case aF=>exact(fun _ _=>trivial));(case aO=>exact(ru iA));(case aS=>exact(aq bl));(case aL=>have:=G9.1;omega);intro aug WZ ho hb hg dH;rw[←Xs.1] at ho;replace fG:=pg fG hg (Kd.jA iA.1 fG.1 (by decide));replace iD:=pg iD hg (Kd.jA iA.1 iD.1 (by decide));replace QF:=ak (Kd.kg (ru QF) (Kd.gz (ru iA)) (by decide) hg);replace HB:=ak (hb);have aeM:=ak (ho);clear iA;clear ho hb hg dH))
      go_roundg k1
      case measure=>have:=iB.1;omega
      case rel=>exact⟨alN,alO,(wrap64 (dV+1)),rs,H,⟨by have:=iB.1;omega⟩,⟨ru QF⟩,⟨ru aeM⟩,⟨bu fG⟩,⟨bl⟩⟩
     ·obtain⟨G',Bd,wz,jI,jJ,wA,wB⟩:=gq (cw fD) dV dt dt;(try rw[←qF.1] at jI);(try rw[←Bc.1] at jI);(try rw[←qF.1] at jJ);(try rw[←Bc.1] at jJ);cases Bd;have QD:=tp (0≤(dV:Int));have QE:=tp (dV<(aw.length:Int))
      go_wp2_with((with_reducible refine gd 7 ?_);refine bX 43 #[.int .i64 0,.bool false,.bool false,.int .i64 0,.int .i64 0] fun Ha w18 iD Hb HB hg hb=>?_;replace dI:=qr dI hb;replace iA:=qr iA hb;obtain⟨jj,jk⟩:=nn fG hg;replace fG:=qk fG hb;clear hb hg;have PN:=jk.1;have PO:=jj.1;obtain⟨p8,qa⟩:=cf iD)
      go_roundg k1
      case measure=>have:=iB.1;omega
      case rel=>exact⟨jG,sO,(wrap64 (dV+1)),rs,H,⟨by have:=iB.1;omega⟩,⟨rT dI iD⟩,⟨rT iA iD⟩,⟨bu fG⟩,⟨bl⟩⟩
    ·obtain⟨G',Bd,wz,jI,jJ,wA,wB⟩:=gq (cw fD) dV dt dt;(try rw[←qF.1] at jI);(try rw[←qF.1] at jJ);cases Bd;have QD:=tp (0≤(dV:Int));have QE:=tp (dV<(aw.length:Int))
     go_wp2_with((with_reducible refine gd 7 ?_);refine bX 43 #[.int .i64 0,.bool false,.bool false,.int .i64 0,.int .i64 0] fun Ha WX iD Hb HB hg hb=>?_;replace dI:=qr dI hb;replace iA:=qr iA hb;obtain⟨jj,jk⟩:=nn fG hg;replace fG:=qk fG hb;clear hb hg;have aen:=jk.1;have aeo:=jj.1;obtain⟨LV,LW⟩:=cf iD)
     go_roundg k1
     case measure=>have:=iB.1;omega
     case rel=>exact⟨jG,sO,(wrap64 (dV+1)),rs,H,⟨by have:=iB.1;omega⟩,⟨rT dI iD⟩,⟨rT iA iD⟩,⟨bu fG⟩,⟨bl⟩⟩
   ·obtain⟨rfl,rfl⟩:=s2 H;go_wp2;go_ret2;exact⟨_,_,re,by(with_reducible repeat (first|apply Kd.bQ|apply Kd.dh|apply Kd.cR));exact dI.1,by(with_reducible repeat (first|apply Kd.bQ|apply Kd.dh|apply Kd.cR));exact iA.1,bl⟩
def tZ.f(a0:Int):Option Int:=some (wrap64 ((wrap64 (Int.tdiv (wrap64 ((wrap64 (a0+4))-1)) 4))*4))
theorem tZ.calls(a0 r:Int)(w:World)(h:tZ.f a0=some r):
 Calls Tryz.prog 82 #[.int .i64 a0] w fun e w'=>e= .returned (.int .i64 r)∧bN w w':=by
 have H:=ak h;clear h;unfold tZ.f at H;obtain rfl:=s1 H;go_enter Tryz.func82,Tryz.ntmps82;go_wp2;go_ret;exact⟨by first|rfl|(simp;done)|(simp [*];done),by repeat (first|exact bN.refl _|apply bN.step)⟩
def j5.f(a0:Int):Option (Int×Int):=if a0<1 then some (0,1) else if a0>2048 then some (0,1) else(tZ.f (wrap64 (2+(wrap64 (Int.tdiv (wrap64 ((wrap64 (a0+8))-1)) 8))))).bind fun t166=>(some (t166,0))
theorem j5.calls(a0 r1 r2:Int)(w:World)(h:j5.f a0=some (r1,r2)):
 Calls Tryz.prog 42 #[.int .i64 a0] w fun e w'=>e= .returned (.tuple #[.int .i64 r1,.int .i64 r2])∧bN w w':=by
 have H:=ak h;clear h;unfold j5.f at H;replace H:=ic H;rcases H with⟨mC,H⟩|⟨mC,H⟩
 ·obtain⟨rfl,rfl⟩:=s2 H;go_enter Tryz.func42,Tryz.ntmps42;go_wp2;go_ret2;exact⟨by first|rfl|(simp;done)|(simp [*];done),by repeat (first|exact bN.refl _|apply bN.step)⟩
 ·replace H:=ic H;rcases H with⟨kU,H⟩|⟨kU,H⟩
  ·obtain⟨rfl,rfl⟩:=s2 H;go_enter Tryz.func42,Tryz.ntmps42;go_wp2;go_ret2;exact⟨by first|rfl|(simp;done)|(simp [*];done),by repeat (first|exact bN.refl _|apply bN.step)⟩
  ·replace H:=bI H;obtain⟨t166,A4,H⟩:=H;(try dsimp only at H);obtain⟨rfl,rfl⟩:=s2 H;go_enter Tryz.func42,Tryz.ntmps42
   go_wp2_with((with_reducible refine gc 82 ?_);refine gl 15 Tryz.func82 #[.int .i64 (wrap64 (2+(wrap64 (Int.tdiv (wrap64 ((wrap64 (a0+8))-1)) 8))))] ?_;(with_reducible refine(tZ.calls (wrap64 (2+(wrap64 (Int.tdiv (wrap64 ((wrap64 (a0+8))-1)) 8)))) t166 _ A4.1).mono ?_);rintro e w' ⟨rfl,⟨nd,rfl⟩⟩;refine⟨_,rfl,?_⟩)
   go_ret2;exact⟨by first|rfl|(simp;done)|(simp [*];done),by repeat (first|exact bN.refl _|apply bN.step)⟩
def dg.l0:Nat→List S64→List cU→Int→Int→Option ((List S64))
 |0,_,_,_,_=>none
 |k+1,x3,x9,sN,u'=>if u'<sN then(if 0≤u' then(if u'<(x9.length:Int) then(if(aM x9 u').f1=true then(if((aM x9 u').f2=true) then dg.l0 k x3 x9 sN (wrap64 (u'+1)) else((j5.f ((aM x9 u').f4)).bind fun aeN=>(if x3.length<5864062014805 then(dg.l0 k (x3++[(⟨(aM x9 u').f3,aeN.1,u'⟩:S64)]) x9 sN (wrap64 (u'+1))) else none))) else dg.l0 k x3 x9 sN (wrap64 (u'+1))) else none) else none) else some x3
def dg.u(k:Nat)(az ax aA aC aV aX:Int)(aw:List cU)(aD:List dJ)(aG:List (List Int)):Option ((List S64)):=dg.l0 k ([]:List S64) aw (aw.length:Int) 0
def dg.f(k:Nat)(az ax aA aC aV aX:Int)(aw:List cU)(aD:List dJ)(aG:List (List Int)):Option (List S64):=(dg.u k az ax aA aC aV aX aw aD aG).bind fun t=>if t.length<40 then some (Ay.sorted t) else none
theorem aaf:(Tryz.prog.info? 64).map (fun i=>(i.zero,i.size,i.bytes))=some (some (.agg #[(.int .i64 0),(.int .i64 0),(.int .i64 0)]),3,24):=by kernel_rfl
theorem dg.calls(k:Nat)(az ax aA aC aV aX:Int)(cN:Option Addr)(cF:Nat)(aw:List cU)(cy:Option Addr)(cA:Nat)(aD:List dJ)(cC:Option Addr)(cB:Nat)(aG:List (List Int))(r:List S64)(w:World)(dZ:Kd.C gW w cN aw.length aw)(ef:aw.length≤cF)(eb:Kd.C gQ w cy aD.length aD)(en:aD.length≤cA)(dL:Kd.C (Kd.slice 5 (Kd.int .u8)) w cC aG.length aG)(ew:aG.length≤cB)(h:dg.f k az ax aA aC aV aX aw aD aG=some r):
 Calls Tryz.prog 20 #[.agg #[.int .i64 az,.int .i64 ax,.int .i64 aA,.int .i64 aC,.int .i64 aV,.int .i64 aX,.slice cN aw.length cF,.slice cy aD.length cA,.slice cC aG.length cB]] w fun e w'=>∃kT:Value,e= .returned kT∧Kd.R Ju 64 w' w.heap.size (fun _=>True) kT r∧Below w.heap.size w w':=by
 have Ba:=Tryz.underlying28;have D':=Tryz.underlying43;have aeO:=Tryz.underlying64;have fD:=ak dZ;have i':=ak ef;clear dZ ef;have iw:=ak eb;have ji:=ak en;clear eb en;have ix:=ak dL;have jS:=ak ew;clear dL ew;have HB:=ak (Below.refl w.heap.size w);obtain⟨u_,hu_,h⟩:=Option.bind_eq_some_iff.mp h
 have HL:ae (u_.length<40):=by
  by_cases c:u_.length<40
  ·exact⟨c⟩
  ·rw[if_neg c] at h;cases h
 have HSO:ae (Ay.sorted u_=r):=by
  rw[if_pos HL.1] at h;exact⟨Option.some.inj h⟩
 have H:(dg.l0 k ([]:List S64) aw (aw.length:Int) 0)=some u_:=hu_;clear hu_;clear h;have H':=ak H;clear H;go_enter Tryz.func20,Tryz.ntmps20
 go_wp2_with((with_reducible refine gd 1 ?_);refine bY 28 #[.int .i64 az,.int .i64 ax,.int .i64 aA,.int .i64 aC,.int .i64 aV,.int .i64 aX,.slice cN aw.length cF,.slice cy aD.length cA,.slice cC aG.length cB] fun Qz w2 fG aeL HB=>?_;obtain⟨QA,QB⟩:=cf fG)
 go_loopg [3,11] k (fun kq v3 v11 w'=>∃(jg:List S64)(dV:Int),v11= .int .i64 dV∧ae (dg.l0 kq jg aw (aw.length:Int) dV=some u_)∧ae (kq≤k)∧ae (Kd.R Ju 64 w' w.heap.size (fun _=>True) v3 jg)∧ae (w'.heap[Qz]? =some (.cells #[.int .i64 az,.int .i64 ax,.int .i64 aA,.int .i64 aC,.int .i64 aV,.int .i64 aX,(.slice cN aw.length cF),(.slice cy aD.length cA),(.slice cC aG.length cB)] 28 (0,0)))∧ae (Below w.heap.size w w'))
 case atStart=>exact⟨(([]:List S64)),0,rs,H',⟨Nat.le_refl _⟩,⟨kn⟩,⟨bu fG⟩,⟨bl⟩⟩
 case round=>
  clear H';obtain⟨jg,dV,rfl,HA,iB,kZ,fG,HB⟩:=hrel;cases gk with
  |zero=>exact absurd HA.1 (by simp [dg.l0])
  |succ k1=>
   have H:=HA.1;clear HA;simp only[dg.l0] at H
   by_cases c4:dV<(aw.length:Int)
   ·rw[if_pos c4] at H;have jP:=decide_eq_true c4;clear c4;obtain⟨c5,H⟩:=io H;have iG:=decide_eq_true c5;clear c5;obtain⟨c6,H⟩:=io H;have lu:=decide_eq_true c6;clear c6;obtain⟨bq7,qF⟩:=nm ((aM aw dV).f1);rw[←qF.1] at H
    by_cases c8:bq7=true
    ·subst c8;rw[if_pos rfl] at H;obtain⟨bq9,Bc⟩:=nm ((aM aw dV).f2);rw[←Bc.1] at H
     by_cases SY:(bq9=true)
     ·subst SY;rw[if_pos rfl] at H;have H':=ak H;clear H;obtain⟨G',Bd,wz,jI,jJ,wA,wB⟩:=gq (cw fD) dV dt dt;(try rw[←qF.1] at jI);(try rw[←Bc.1] at jI);(try rw[←qF.1] at jJ);(try rw[←Bc.1] at jJ);cases Bd;have QD:=tp (0≤(dV:Int));have QE:=tp (dV<(aw.length:Int))
      go_wp2_with((with_reducible refine gd 5 ?_);refine bX 43 #[.int .i64 0,.bool false,.bool false,.int .i64 0,.int .i64 0] fun Ha w11 iD Hb HB hg hb=>?_;replace kZ:=qr kZ hb;obtain⟨jj,jk⟩:=nn fG hg;replace fG:=qk fG hb;clear hb hg;have PG:=jk.1;have PH:=jj.1;obtain⟨pV,pW⟩:=cf iD)
      go_roundg k1
      case measure=>have:=iB.1;omega
      case rel=>exact⟨jg,(wrap64 (dV+1)),rs,H',⟨by have:=iB.1;omega⟩,⟨rT kZ iD⟩,⟨bu fG⟩,⟨bl⟩⟩
     ·replace SY:=Bool.eq_false_iff.mpr SY;subst SY;rw[if_neg nf] at H;obtain⟨⟨t170,t171⟩,WY,H⟩:=bi H;(try dsimp only at H);obtain⟨c15,H⟩:=io H;have aeP:=ak c15;clear c15;obtain⟨alP,Xt⟩:=nm (jg++[(⟨(aM aw dV).f3,t170,dV⟩:S64)]);rw[←Xt.1] at H;have H':=ak H;clear H;obtain⟨G',Bd,wz,jI,jJ,wA,wB⟩:=gq (cw fD) dV dt dt;(try rw[←qF.1] at jI);(try rw[←Bc.1] at jI);(try rw[←qF.1] at jJ);(try rw[←Bc.1] at jJ);cases Bd;have QD:=tp (0≤(dV:Int));have QE:=tp (dV<(aw.length:Int))
      go_wp2_with(first|((with_reducible refine gd 5 ?_);refine bX 43 #[.int .i64 0,.bool false,.bool false,.int .i64 0,.int .i64 0] fun Ha M9 iD Hb HB hg hb=>?_;replace kZ:=qr kZ hb;obtain⟨jj,jk⟩:=nn fG hg;replace fG:=qk fG hb;clear hb hg;have PI:=jk.1;have PJ:=jj.1;obtain⟨pZ,p7⟩:=cf iD)|(go_at_call 42;refine(j5.calls ((aM aw dV).f4) t170 t171 _ WY.1).mono ?_;rintro e w' ⟨rfl,⟨nd,rfl⟩⟩)|((with_reducible refine dm (b:= .append) (xs:= #[.tmp 29,.tmp 35]) rfl ?_);at_builtin;refine Kd.jO Ju (w0:=w) w.heap.size rfl (.tmp 29) (.tmp 35) 61 64 (.agg #[(.int .i64 0),(.int .i64 0),(.int .i64 0)]) 24 rfl Tryz.underlying61 aaf rfl (by decide) (by omega) u3 jg (⟨(aM aw dV).f3,t170,dV⟩:S64) [.int .i64 ((aM aw dV).f3),.int .i64 t170,.int .i64 dV] (fun _=>True) (fun _=>False) rfl (by first|(go_simp;done)|(go_simp;rfl)) ?aP (fun _ hk=>hk.elim) ?aF ?aO ?aB ?aS ?aL ?_;(case aP=>exact Lr _ _ _ (⟨(aM aw dV).f3,t170,dV⟩:S64));(case aB=>exact bl);(case aF=>exact(fun _ _=>trivial));(case aO=>exact(rT kZ iD));(case aS=>exact(aq bl));(case aL=>have:=aeP.1;omega);intro v173 Nz ho hb hg dH;rw[←Xt.1] at ho;replace fG:=pg fG hg (Kd.jA kZ.1 fG.1 (by decide));replace iD:=pg iD hg (Kd.jA kZ.1 iD.1 (by decide));replace HB:=ak (hb);have aeQ:=ak (ho);clear kZ;clear ho hb hg dH))
      go_roundg k1
      case measure=>have:=iB.1;omega
      case rel=>exact⟨alP,(wrap64 (dV+1)),rs,H',⟨by have:=iB.1;omega⟩,⟨ru aeQ⟩,⟨bu fG⟩,⟨bl⟩⟩
    ·replace c8:=Bool.eq_false_iff.mpr c8;subst c8;rw[if_neg nf] at H;have H':=ak H;clear H;obtain⟨G',Bd,wz,jI,jJ,wA,wB⟩:=gq (cw fD) dV dt dt;(try rw[←qF.1] at jI);(try rw[←qF.1] at jJ);cases Bd;have QD:=tp (0≤(dV:Int));have QE:=tp (dV<(aw.length:Int))
     go_wp2_with((with_reducible refine gd 5 ?_);refine bX 43 #[.int .i64 0,.bool false,.bool false,.int .i64 0,.int .i64 0] fun Ha w20 iD Hb HB hg hb=>?_;replace kZ:=qr kZ hb;obtain⟨jj,jk⟩:=nn fG hg;replace fG:=qk fG hb;clear hb hg;have aqC:=jk.1;have aqD:=jj.1;obtain⟨tV,tW⟩:=cf iD)
     go_roundg k1
     case measure=>have:=iB.1;omega
     case rel=>exact⟨jg,(wrap64 (dV+1)),rs,H',⟨by have:=iB.1;omega⟩,⟨rT kZ iD⟩,⟨bu fG⟩,⟨bl⟩⟩
   ·rw[if_neg c4] at H;have jP:=decide_eq_false c4;clear c4;obtain rfl:=Option.some.inj H
    go_wp2_with(go_at_call 43;refine(Ay.JJ kZ.1 (aq HB.1) HL.1).mono ?_;rintro e wS ⟨rfl,hR,hBs⟩;have HRS:=ak hR;have HBS:=ak hBs;clear hR hBs)
    go_ret;exact⟨_,rfl,by rw[←HSO.1];exact HRS.1,HB.1.trans HBS.1⟩
def fE.f(a0:Int):Option Bool:=if a0≥1 then some (decide (a0≤2048)) else some false
theorem fE.calls(a0:Int)(r:Bool)(w:World)(h:fE.f a0=some r):
 Calls Tryz.prog 146 #[.int .i64 a0] w fun e w'=>e= .returned (.bool r)∧bN w w':=by
 have H:=ak h;clear h;unfold fE.f at H;replace H:=ic H;rcases H with⟨mC,H⟩|⟨mC,H⟩
 ·obtain rfl:=s1 H;go_enter Tryz.func146,Tryz.ntmps146;go_wp2;go_ret;exact⟨by first|rfl|(simp;done)|(simp [*];done),by repeat (first|exact bN.refl _|apply bN.step)⟩
 ·obtain rfl:=s1 H;go_enter Tryz.func146,Tryz.ntmps146;go_wp2;go_ret;exact⟨by first|rfl|(simp;done)|(simp [*];done),by repeat (first|exact bN.refl _|apply bN.step)⟩
def fN.l0:Nat→Int→List eE→List S64→Int→Int→Int→Int→Int→Int→Int→Int→List cU→List dJ→List (List Int)→Option (Int×Bool)
 |0,_,_,_,_,_,_,_,_,_,_,_,_,_,_=>none
 |k+1,x6,x8,x23,x24,UG,Mi,UP,UQ,UR,US,Mj,UT,UU,UW=>if UG<x24 then(if 0≤UG then(if UG<(x23.length:Int) then(if x8.length<8796093022208 then(fN.l0 k x6 (x8++[(⟨(gR x23 UG).f0,(gR x23 UG).f1⟩:eE)]) x23 x24 (wrap64 (UG+1)) Mi UP UQ UR US Mj UT UU UW) else none) else none) else none) else(mJ.f (wrap64 (Mj*32)) (wrap64 (Mi*32)) x8).bind fun ae5=>((ff.f k ae5.1 x6).bind fun XA=>(some (XA.1,XA.2.2)))
def fN.f(k:Nat)(az ax aA aC aV aX:Int)(aw:List cU)(aD:List dJ)(aG:List (List Int))(a1:Int):Option (Int×Bool):=(j5.f a1).bind fun XB=>(if XB.2=0 then((dg.f k az ax aA aC aV aX aw aD aG).bind fun tv=>(fN.l0 k XB.1 ([]:List eE) tv (tv.length:Int) 0 az ax aA aC aV aX aw aD aG)) else some (0,false))
theorem fN.calls(k:Nat)(az ax aA aC aV aX:Int)(cN:Option Addr)(cF:Nat)(aw:List cU)(cy:Option Addr)(cA:Nat)(aD:List dJ)(cC:Option Addr)(cB:Nat)(aG:List (List Int))(a1 r1:Int)(r2:Bool)(w:World)(dZ:Kd.C gW w cN aw.length aw)(ef:aw.length≤cF)(eb:Kd.C gQ w cy aD.length aD)(en:aD.length≤cA)(dL:Kd.C (Kd.slice 5 (Kd.int .u8)) w cC aG.length aG)(ew:aG.length≤cB)(h:fN.f k az ax aA aC aV aX aw aD aG a1=some (r1,r2)):
 Calls Tryz.prog 196 #[.agg #[.int .i64 az,.int .i64 ax,.int .i64 aA,.int .i64 aC,.int .i64 aV,.int .i64 aX,.slice cN aw.length cF,.slice cy aD.length cA,.slice cC aG.length cB],.int .i64 a1] w fun e w'=>e= .returned (.tuple #[.int .i64 r1,.bool r2])∧Below w.heap.size w w':=by
 have Ba:=Tryz.underlying28;have aeO:=Tryz.underlying64;have TR:=Tryz.underlying66;have fD:=ak dZ;have i':=ak ef;clear dZ ef;have iw:=ak eb;have ji:=ak en;clear eb en;have ix:=ak dL;have jS:=ak ew;clear dL ew;have HB:=ak (Below.refl w.heap.size w);have H:=ak h;clear h;unfold fN.f at H;replace H:=bI H;obtain⟨⟨QI,NQ⟩,A3,H⟩:=H;(try dsimp only at H);replace H:=iC H;rcases H with⟨c4,H⟩|⟨c4,H⟩
 ·have jP:(NQ==0)=true:=beq_iff_eq.mpr c4;have Nd:(NQ !=0)=false:=bne_eq_false_iff_eq.mpr c4;clear c4;replace H:=bI H;obtain⟨tv,A5,H⟩:=H;(try dsimp only at H);go_enter Tryz.func196,Tryz.ntmps196
  go_wp2_with(first|((with_reducible refine gd 2 ?_);refine bY 28 #[.int .i64 az,.int .i64 ax,.int .i64 aA,.int .i64 aC,.int .i64 aV,.int .i64 aX,.slice cN aw.length cF,.slice cy aD.length cA,.slice cC aG.length cB] fun XC w6 lB ae6 HB=>?_)|((with_reducible refine gc 42 ?_);refine gl 17 Tryz.func42 #[.int .i64 a1] ?_;(with_reducible refine(j5.calls a1 QI NQ _ A3.1).mono ?_);rintro e w' ⟨rfl,⟨nd,rfl⟩⟩;refine⟨_,rfl,?_⟩;obtain⟨nZ,n9⟩:=cf lB)|((with_reducible refine gc 20 ?_);refine gl 23 Tryz.func20 #[.agg #[.int .i64 az,.int .i64 ax,.int .i64 aA,.int .i64 aC,.int .i64 aV,.int .i64 aX,.slice cN aw.length cF,.slice cy aD.length cA,.slice cC aG.length cB]] ?_;(with_reducible refine(dg.calls k az ax aA aC aV aX _ _ aw _ _ aD _ _ aG tv _ ?di i'.1 ?rz ji.1 ?wC jS.1 A5.1).mono ?_);(case di=>repeat (first|exact(Kd.aj fD.1 bl)|(with_reducible refine Kd.cD ?_ _)|(with_reducible refine Kd.cE ?_ _)|(with_reducible refine Kd.cY ?_)));(case rz=>repeat (first|exact(Kd.aj iw.1 bl)|(with_reducible refine Kd.cD ?_ _)|(with_reducible refine Kd.cE ?_ _)|(with_reducible refine Kd.cY ?_)));(case wC=>repeat (first|exact(Kd.aj ix.1 bl)|(with_reducible refine Kd.cD ?_ _)|(with_reducible refine Kd.cE ?_ _)|(with_reducible refine Kd.cY ?_)));rintro e w8 ⟨auA,rfl,gu,hb⟩;refine⟨_,rfl,?_⟩;have XD:=ak (Kd.bO gu (aq bl));replace lB:=qk lB hb;replace HB:=qb hb;clear hb;(try clear gu);obtain⟨OV,Mk,eo9⟩:=Kd.bm XD.1;subst eo9))
  go_loopg [8,25] k (fun kq v8 v25 w'=>∃(jR:List eE)(pv:Int),v25= .int .i64 pv∧ae (fN.l0 kq QI jR tv (tv.length:Int) pv az ax aA aC aV aX aw aD aG=some (r1,r2))∧ae (kq≤k)∧ae (Kd.R zb 66 w' w.heap.size (fun _=>True) v8 jR)∧ae (Kd.R Ju 64 w' w.heap.size (fun _=>True) (.slice OV tv.length Mk) tv)∧ae (w'.heap[XC]? =some (.cells #[.int .i64 az,.int .i64 ax,.int .i64 aA,.int .i64 aC,.int .i64 aV,.int .i64 aX,(.slice cN aw.length cF),(.slice cy aD.length cA),(.slice cC aG.length cB)] 28 (0,0)))∧ae (Below w.heap.size w w'))
  case atStart=>exact⟨(([]:List eE)),0,rs,H,⟨Nat.le_refl _⟩,⟨kn⟩,⟨ru XD⟩,⟨bu lB⟩,⟨bl⟩⟩
  case round=>
   clear H;obtain⟨jR,pv,rfl,H,iB,tx,sD,lB,HB⟩:=hrel;cases gk with
   |zero=>exact absurd H.1 (by simp [fN.l0])
   |succ k1=>
    simp only[fN.l0] at H;replace H:=ic H;rcases H with⟨yx,H⟩|⟨yx,H⟩
    ·replace H:=iO H;obtain⟨WU,H⟩:=H;replace H:=iO H;obtain⟨CQ,H⟩:=H;replace H:=iQ H;obtain⟨ae7,H⟩:=H;obtain⟨al3,XE⟩:=nm (jR++[(⟨(gR tv pv).f0,(gR tv pv).f1⟩:eE)]);rw[←XE.1] at H;obtain⟨aqN,al4,aji,ajj,ajk⟩:=Pu (Kd.aW sD.1).2.2 pv dt dt;cases al4;have auB:=tp (0≤(pv:Int));have auC:=tp (pv<(tv.length:Int))
     go_wp2_with(first|((with_reducible refine gd 10 ?_);refine bX 64 #[.int .i64 0,.int .i64 0,.int .i64 0] fun ae8 ZF CW aqO HB hg hb=>?_;replace tx:=qr tx hb;replace sD:=qe sD hg hb;obtain⟨NR,NS⟩:=nn lB hg;replace lB:=qk lB hb;clear hb hg;have Qr:=NS.1;have Qs:=NR.1;obtain⟨ot,ou⟩:=cf CW)|((with_reducible refine dm (b:= .append) (xs:= #[.tmp 29,.tmp 35]) rfl ?_);at_builtin;refine Kd.jO zb (w0:=w) w.heap.size rfl (.tmp 29) (.tmp 35) 60 66 (.agg #[(.int .i64 0),(.int .i64 0)]) 16 rfl Tryz.underlying60 Dy rfl (by decide) (by omega) u8 jR (⟨(gR tv pv).f0,(gR tv pv).f1⟩:eE) [.int .i64 ((gR tv pv).f0),.int .i64 ((gR tv pv).f1)] (fun _=>True) (fun _=>False) rfl (by first|(go_simp;done)|(go_simp;rfl)) ?aP (fun _ hk=>hk.elim) ?aF ?aO ?aB ?aS ?aL ?_;(case aP=>exact vF _ _ _ (⟨(gR tv pv).f0,(gR tv pv).f1⟩:eE));(case aB=>exact bl);(case aF=>exact(fun _ _=>trivial));(case aO=>exact(rT tx CW));(case aS=>exact(aq bl));(case aL=>have:=ae7.1;omega);intro auD WZ ho hb hg dH;rw[←XE.1] at ho;replace sD:=ak (Kd.kg (rf ae8 sD) (Kd.gz (rt tx CW)) (by decide) hg);replace lB:=pg lB hg (Kd.jA tx.1 lB.1 (by decide));replace CW:=pg CW hg (Kd.jA tx.1 CW.1 (by decide));replace HB:=ak (hb);have ae9:=ak (ho);clear tx;clear ho hb hg dH))
     go_roundg k1
     case measure=>have:=iB.1;omega
     case rel=>exact⟨al3,(wrap64 (pv+1)),rs,H,⟨by have:=iB.1;omega⟩,⟨ru ae9⟩,⟨by(with_reducible repeat (first|apply Kd.bQ|apply Kd.dh|apply Kd.cR));exact Kd.bJ sD.1 (fun _ hk=>trivial)⟩,⟨bu lB⟩,⟨bl⟩⟩
    ·replace H:=bI H;obtain⟨⟨aan,al5⟩,A18,H⟩:=H;(try dsimp only at H);replace H:=bI H;obtain⟨⟨al6,al7,al8⟩,A19,H⟩:=H;(try dsimp only at H);obtain⟨rfl,rfl⟩:=s2 H;obtain⟨p8,qa⟩:=cf lB;obtain⟨NT,NU,aao⟩:=Kd.bm tx.1;subst aao
     go_wp2_with(first|((with_reducible refine gc 106 ?_);refine gl 47 Tryz.func106 #[.int .i64 (wrap64 (aX*32)),.int .i64 (wrap64 (az*32)),.slice NT jR.length NU] ?_;(with_reducible refine(mJ.calls (wrap64 (aX*32)) (wrap64 (az*32)) _ _ jR aan al5 _ ?di ((Kd.aW tx.1).2.1) A18.1).mono ?_);(case di=>repeat (first|exact(Kd.aW tx.1).2.2|(with_reducible refine Kd.cD ?_ _)|(with_reducible refine Kd.cE ?_ _)|(with_reducible refine Kd.cY ?_)));rintro e w22 ⟨auF,rfl,gu,hb⟩;refine⟨_,rfl,?_⟩;replace sD:=qr sD hb;have Bf:=ak (Kd.bO (Kd.sU gu (Kd.pM (ru tx))) (aq bl));replace tx:=ak (Kd.nF (ru tx) (Kd.iE gu) hb);replace lB:=qk lB hb;replace HB:=qb hb;clear hb;(try clear gu);obtain⟨UX,NV,EN⟩:=Kd.bm Bf.1;subst EN)|((with_reducible refine gc 201 ?_);refine gl 53 Tryz.func201 #[.slice UX aan.length NV,.int .i64 QI] ?_;(with_reducible refine(ff.calls k1 _ _ aan QI al6 al7 al8 _ ?di ((Kd.aW Bf.1).2.1) A19.1).mono ?_);(case di=>repeat (first|exact(Kd.aW Bf.1).2.2|(with_reducible refine Kd.cD ?_ _)|(with_reducible refine Kd.cE ?_ _)|(with_reducible refine Kd.cY ?_)));rintro e ZX ⟨rfl,hb⟩;refine⟨_,rfl,?_⟩;replace tx:=qr tx hb;replace sD:=qr sD hb;replace Bf:=qr Bf hb;replace lB:=qk lB hb;replace HB:=qb hb;clear hb)|((with_reducible refine gd 13 ?_);refine bX 66 #[.int .i64 0,.int .i64 0] fun aqP w25 ae' aqQ HB hg hb=>?_;replace tx:=qe tx hg hb;replace sD:=qr sD hb;replace Bf:=qe Bf hg hb;obtain⟨NX,NY⟩:=nn lB hg;replace lB:=qk lB hb;clear hb hg;have aqR:=NY.1;have aqS:=NX.1;obtain⟨Ma,Mb⟩:=cf ae'))
     go_ret2;exact⟨re,bl⟩
 ·have jP:(NQ==0)=false:=beq_eq_false_iff_ne.mpr c4;have Nd:(NQ !=0)=true:=bne_iff_ne.mpr c4;obtain⟨rfl,rfl⟩:=s2 H;go_enter Tryz.func196,Tryz.ntmps196
  go_wp2_with(first|((with_reducible refine gd 2 ?_);refine bY 28 #[.int .i64 az,.int .i64 ax,.int .i64 aA,.int .i64 aC,.int .i64 aV,.int .i64 aX,.slice cN aw.length cF,.slice cy aD.length cA,.slice cC aG.length cB] fun XC w28 lB ae6 HB=>?_)|((with_reducible refine gc 42 ?_);refine gl 17 Tryz.func42 #[.int .i64 a1] ?_;(with_reducible refine(j5.calls a1 QI NQ _ A3.1).mono ?_);rintro e w' ⟨rfl,⟨nd,rfl⟩⟩;refine⟨_,rfl,?_⟩))
  go_ret2;exact⟨re,bl⟩
end Go.Proofs.YtmhdcgmfbjcndaaGreatDoor.P
