import Derived.Test.YtmhdcgmfbjcndaaGreatDoorB24
import Derived.Test.YtmhdcgmfbjcndaaGreatDoorB25
set_option linter.unusedVariables false
set_option linter.unusedSimpArgs false
set_option maxRecDepth 100000
set_option maxHeartbeats 8000000
namespace Go.Proofs.YtmhdcgmfbjcndaaGreatDoor.P
open Go.RowKit Go.Proofs.aa.ag Go.Proofs.aa.ao Go.Proofs.aa.ay
attribute [local go_sem] bD bw cj bV bj bk bG bH
mutual
def aT.j0:Nat→Bool→Int→Int→Int→Int→Int→Int→List cU→List dJ→List (List Int)→Option Bool
 |0,_,_,_,_,_,_,_,_,_,_=>none
 |k+1,x22,oE,qq,qt,qu,nk,np,qv,qw,qy=>if x22=true then some false else((dg.f k oE qq qt qu nk np qv qw qy).bind fun t193=>(aT.l0 k ([]:List eE) t193 (t193.length:Int) 0 oE qq qt qu nk np qv qw qy))
def aT.l0:Nat→List eE→List S64→Int→Int→Int→Int→Int→Int→Int→Int→List cU→List dJ→List (List Int)→Option Bool
 |0,_,_,_,_,_,_,_,_,_,_,_,_,_=>none
 |k+1,x3,x24,UG,Xu,oE,qq,qt,qu,nk,np,qv,qw,qy=>if Xu<UG then(if 0≤Xu then(if Xu<(x24.length:Int) then(if x3.length<8796093022208 then(aT.l0 k (x3++[(⟨(gR x24 Xu).f0,(gR x24 Xu).f1⟩:eE)]) x24 UG (wrap64 (Xu+1)) oE qq qt qu nk np qv qw qy) else none) else none) else none) else(dG.f k oE qq qt qu nk np qv qw qy).bind fun QG=>((iU.f np QG.1).bind fun Xv=>(if Xv.2=true then(lG.f (wrap64 (np*32)) (wrap64 (oE*32)) x3).bind fun t211=>(aT.j2 k x3 QG.1 (!t211) oE qq qt qu nk np qv qw qy) else aT.j2 k x3 QG.1 (!Xv.2) oE qq qt qu nk np qv qw qy))
def aT.j2:Nat→List eE→List fl→Bool→Int→Int→Int→Int→Int→Int→List cU→List dJ→List (List Int)→Option Bool
 |0,_,_,_,_,_,_,_,_,_,_,_,_=>none
 |k+1,x3,x6,x51,oE,qq,qt,qu,nk,np,qv,qw,qy=>if x51=true then some false else(if nk=1 then(some ((x6.length:Int)==0)) else(if nk=2 then(some ((x3.length:Int)==0)) else some true))
end
def aT.f(k:Nat)(az ax aA aC aV aX:Int)(aw:List cU)(aD:List dJ)(aG:List (List Int)):Option Bool:=(bM.f k az ax aA aC aV aX).bind fun t191=>(if t191=true then(dq.f k az ax aA aC aV aX aw aD aG).bind fun t192=>(aT.j0 k (!t192) az ax aA aC aV aX aw aD aG) else aT.j0 k true az ax aA aC aV aX aw aD aG)
theorem aT.calls(k:Nat)(az ax aA aC aV aX:Int)(cN:Option Addr)(cF:Nat)(aw:List cU)(cy:Option Addr)(cA:Nat)(aD:List dJ)(cC:Option Addr)(cB:Nat)(aG:List (List Int))(r:Bool)(w:World)(dZ:Kd.C gW w cN aw.length aw)(ef:aw.length≤cF)(eb:Kd.C gQ w cy aD.length aD)(en:aD.length≤cA)(dL:Kd.C (Kd.slice 5 (Kd.int .u8)) w cC aG.length aG)(ew:aG.length≤cB)(h:aT.f k az ax aA aC aV aX aw aD aG=some r):
 Calls Tryz.prog 7 #[.agg #[.int .i64 az,.int .i64 ax,.int .i64 aA,.int .i64 aC,.int .i64 aV,.int .i64 aX,.slice cN aw.length cF,.slice cy aD.length cA,.slice cC aG.length cB]] w fun e w'=>e= .returned (.bool r)∧Below w.heap.size w w':=by
 have Ba:=Tryz.underlying28;have ND:=Tryz.underlying23;have aeO:=Tryz.underlying64;have TR:=Tryz.underlying66;have fD:=ak dZ;have i':=ak ef;clear dZ ef;have iw:=ak eb;have ji:=ak en;clear eb en;have ix:=ak dL;have jS:=ak ew;clear dL ew;have HB:=ak (Below.refl w.heap.size w);have H:=h;clear h;unfold aT.f at H;have HC2:=ak H;clear H;go_enter Tryz.func7,Tryz.ntmps7
 go_upto_region 1 with(first|((with_reducible refine gd 1 ?_);refine bx 28 #[.int .i64 az,.int .i64 ax,.int .i64 aA,.int .i64 aC,.int .i64 aV,.int .i64 aX,.slice cN aw.length cF,.slice cy aD.length cA,.slice cC aG.length cB] ?_;intro QH hg w3 eh hb;have iR:=qb hb;have iT:=ak (eh);have jQ:=qg hg;have lP:=qg hg;clear HB;have HB:=iR;have ez:=iT;have aqF:=jQ;have aqG:=lP;clear iR iT jQ lP;clear hb eh hg))
 (try simp only[Act.put,List.setIfInBounds_toArray,List.set_cons_zero,List.set_cons_succ])
 go_cut [22] (fun v22 wc=>∃(kq:Nat)(Me:Bool),v22= .bool Me∧ae (aT.j0 kq Me az ax aA aC aV aX aw aD aG=some r)∧ae (kq≤k)∧ae (wc.heap[QH]? =some (.cells #[.int .i64 az,.int .i64 ax,.int .i64 aA,.int .i64 aC,.int .i64 aV,.int .i64 aX,(.slice cN aw.length cF),(.slice cy aD.length cA),(.slice cC aG.length cB)] 28 (0,0)))∧ae (Below w.heap.size w wc))
 case first=>
  have H:=HC2.1;clear HC2;obtain⟨t191,A4,H⟩:=bi H;(try dsimp only at H)
  by_cases c5:t191=true
  ·subst c5;rw[if_pos rfl] at H;obtain⟨t192,A6,H⟩:=bi H;(try dsimp only at H);have H':=ak H;clear H;have nZ:=cL ez;have n9:=fZ ez
   go_wp2_with(first|((with_reducible refine gc 18 ?_);refine gl 16 Tryz.func18 #[.agg #[.int .i64 az,.int .i64 ax,.int .i64 aA,.int .i64 aC],.int .i64 aV,.int .i64 aX] ?_;(with_reducible refine(bM.calls k az ax aA aC aV aX true _ A4.1).mono ?_);rintro e w8 ⟨rfl,hb⟩;refine⟨_,rfl,?_⟩;replace ez:=qk ez hb;replace HB:=qb hb;(try clear hb);(try clear iq);(try clear hk);(try clear hi);have po:=cL ez;have pq:=fZ ez)|(go_at_call 19;(with_reducible refine(dq.calls k az ax aA aC aV aX _ _ aw _ _ aD _ _ aG t192 _ ?di ?gJ ?rz ?Hc ?wC ?Hd A6.1).mono ?_);(case di=>repeat (first|exact(Kd.aj fD.1 HB.1)|(with_reducible refine Kd.cD ?_ _)|(with_reducible refine Kd.cE ?_ _)|(with_reducible refine Kd.cY ?_)));(case gJ=>exact i'.1);(case rz=>repeat (first|exact(Kd.aj iw.1 HB.1)|(with_reducible refine Kd.cD ?_ _)|(with_reducible refine Kd.cE ?_ _)|(with_reducible refine Kd.cY ?_)));(case Hc=>exact ji.1);(case wC=>repeat (first|exact(Kd.aj ix.1 HB.1)|(with_reducible refine Kd.cD ?_ _)|(with_reducible refine Kd.cE ?_ _)|(with_reducible refine Kd.cY ?_)));(case Hd=>exact jS.1);rintro e rN ⟨rfl,hb⟩;replace ez:=qk ez hb;replace HB:=qb hb;(try clear hb);(try clear iq);(try clear hk);(try clear hi)))
   go_meet
   case rel=>exact⟨_,(!t192),rs,H',⟨by first|omega|exact Nat.le_refl _⟩,⟨bu ez⟩,⟨bl⟩⟩
  ·replace c5:=Bool.eq_false_iff.mpr c5;subst c5;rw[if_neg nf] at H;have H':=ak H;clear H;have km:=cL ez;have ko:=fZ ez
   go_wp2_with(first|((with_reducible refine gc 18 ?_);refine gl 16 Tryz.func18 #[.agg #[.int .i64 az,.int .i64 ax,.int .i64 aA,.int .i64 aC],.int .i64 aV,.int .i64 aX] ?_;(with_reducible refine(bM.calls k az ax aA aC aV aX false _ A4.1).mono ?_);rintro e SQ ⟨rfl,hb⟩;refine⟨_,rfl,?_⟩;replace ez:=qk ez hb;replace HB:=qb hb;(try clear hb);(try clear iq);(try clear hk);(try clear hi)))
   go_meet
   case rel=>exact⟨_,true,rs,H',⟨by first|omega|exact Nat.le_refl _⟩,⟨bu ez⟩,⟨bl⟩⟩
 case rest=>
  clear HC2
  try clear c1
  try clear p2
  try clear c5
  try clear c7
  try clear km
  try clear nZ
  try clear po
  try clear ko
  try clear n9
  try clear pq
  obtain⟨kq,Me,rfl,HA,JQ,ez,HB⟩:=hcut;cases kq with
  |zero=>exact absurd HA.1 (by simp [aT.j0])
  |succ Ec=>
   have H:=HA.1;clear HA;simp only[aT.j0] at H
   by_cases NH:Me=true
   ·subst NH;rw[if_pos rfl] at H;obtain rfl:=Option.some.inj H;go_wp2;go_ret;exact⟨re,bl⟩
   ·replace NH:=Bool.eq_false_iff.mpr NH;subst NH;rw[if_neg nf] at H;obtain⟨t193,WY,H⟩:=bi H;(try dsimp only at H);have H':=ak H;clear H;have ni:=cL ez;have nj:=fZ ez
    go_wp2_with(first|((with_reducible refine gc 20 ?_);refine gl 24 Tryz.func20 #[.agg #[.int .i64 az,.int .i64 ax,.int .i64 aA,.int .i64 aC,.int .i64 aV,.int .i64 aX,.slice cN aw.length cF,.slice cy aD.length cA,.slice cC aG.length cB]] ?_;(with_reducible refine(dg.calls Ec az ax aA aC aV aX _ _ aw _ _ aD _ _ aG t193 _ ?di ?gJ ?rz ?Hc ?wC ?Hd WY.1).mono ?_);(case di=>repeat (first|exact(Kd.aj fD.1 HB.1)|(with_reducible refine Kd.cD ?_ _)|(with_reducible refine Kd.cE ?_ _)|(with_reducible refine Kd.cY ?_)));(case gJ=>exact i'.1);(case rz=>repeat (first|exact(Kd.aj iw.1 HB.1)|(with_reducible refine Kd.cD ?_ _)|(with_reducible refine Kd.cE ?_ _)|(with_reducible refine Kd.cY ?_)));(case Hc=>exact ji.1);(case wC=>repeat (first|exact(Kd.aj ix.1 HB.1)|(with_reducible refine Kd.cD ?_ _)|(with_reducible refine Kd.cE ?_ _)|(with_reducible refine Kd.cY ?_)));(case Hd=>exact jS.1);rintro e M9 ⟨v194,rfl,gu,hb⟩;refine⟨_,rfl,?_⟩;have Xw:=ak (Kd.bO gu (aq bl));replace ez:=qk ez hb;replace HB:=qb hb;(try clear hb);(try clear iq);(try clear hk);(try clear hi);(try clear gu);obtain⟨alR,alS,alT⟩:=Kd.bm Xw.1;subst alT))
    go_loopg [3,26] Ec (fun kq v3 v26 w'=>∃(EJ:List eE)(oh:Int),v26= .int .i64 oh∧ae (aT.l0 kq EJ t193 (t193.length:Int) oh az ax aA aC aV aX aw aD aG=some r)∧ae (kq≤Ec)∧ae (Kd.R zb 66 w' w.heap.size (fun _=>True) v3 EJ)∧ae (Kd.R Ju 64 w' w.heap.size (fun _=>True) (.slice alR t193.length alS) t193)∧ae (w'.heap[QH]? =some (.cells #[.int .i64 az,.int .i64 ax,.int .i64 aA,.int .i64 aC,.int .i64 aV,.int .i64 aX,(.slice cN aw.length cF),(.slice cy aD.length cA),(.slice cC aG.length cB)] 28 (0,0)))∧ae (Below w.heap.size w w'))
    case atStart=>exact⟨(([]:List eE)),0,rs,H',⟨Nat.le_refl _⟩,⟨kn⟩,⟨ru Xw⟩,⟨bu ez⟩,⟨bl⟩⟩
    case round=>
     clear H'
     try clear c1
     try clear c2
     try clear p2
     try clear c5
     try clear c7
     try clear NH
     try clear km
     try clear ni
     try clear nZ
     try clear po
     try clear ko
     try clear nj
     try clear n9
     try clear pq
     try clear p2
     obtain⟨EJ,oh,rfl,HA,NI,kZ,sC,ez,HB⟩:=hrel;cases gk with
     |zero=>exact absurd HA.1 (by simp [aT.l0])
     |succ k2=>
      have H:=HA.1;clear HA;simp only[aT.l0] at H
      by_cases L0:oh<(t193.length:Int)
      ·rw[if_pos L0] at H;have wk:=decide_eq_true L0;clear L0;obtain⟨c19,H⟩:=io H;have tr:=decide_eq_true c19;clear c19;obtain⟨yB,H⟩:=io H;have rv:=decide_eq_true yB;clear yB;obtain⟨c21,H⟩:=io H;have aeR:=ak c21;clear c21;obtain⟨alW,Xx⟩:=nm (EJ++[(⟨(gR t193 oh).f0,(gR t193 oh).f1⟩:eE)]);rw[←Xx.1] at H;have H':=ak H;clear H;obtain⟨aqH,alX,UH,UI,UJ⟩:=Pu (Kd.aW sC.1).2.2 oh dt dt;cases alX;have alY:=tp (0≤(oh:Int));have alZ:=tp (oh<(t193.length:Int))
       go_wp2_with(first|((with_reducible refine gd 5 ?_);refine bx 64 #[.int .i64 0,.int .i64 0,.int .i64 0] ?_;intro aeS hg w22 eh hb;replace kZ:=qr kZ hb;replace sC:=qe sC hg hb;have Be:=ak (eh);have aqI:=qg hg;have aqJ:=qg hg;replace HB:=qb hb;have NJ:=nl ez hg;have NK:=nr ez hg;replace ez:=qk ez hb;clear hb eh hg;have aqK:=NK.1;have aqL:=NJ.1;have EE:=cL Be;have EI:=fZ Be)|((with_reducible refine dm (b:= .append) (xs:= #[.tmp 30,.tmp 36]) rfl ?_);at_builtin;refine Kd.jO zb (w0:=w) w.heap.size rfl (.tmp 30) (.tmp 36) 60 66 (.agg #[(.int .i64 0),(.int .i64 0)]) 16 rfl Tryz.underlying60 Dy rfl (by decide) (by omega) u3 EJ (⟨(gR t193 oh).f0,(gR t193 oh).f1⟩:eE) [.int .i64 ((gR t193 oh).f0),.int .i64 ((gR t193 oh).f1)] (fun _=>True) (fun _=>False) rfl (by first|(go_simp;done)|(go_simp;rfl)) ?aP (fun _ hk=>hk.elim) ?aF ?aO ?aB ?aS ?aL ?_;(case aP=>exact vF _ _ _ (⟨(gR t193 oh).f0,(gR t193 oh).f1⟩:eE));(case aB=>exact bl);(case aF=>exact(fun _ _=>trivial));(case aO=>exact(rT kZ Be));(case aS=>exact(aq bl));(case aL=>have:=aeR.1;omega);intro aum w25 ho hb hg dH;rw[←Xx.1] at ho;replace sC:=ak (Kd.kg (rf aeS sC) (Kd.gz (rt kZ Be)) (by decide) hg);replace ez:=pg ez hg (Kd.jA kZ.1 ez.1 (by decide));replace Be:=pg Be hg (Kd.jA kZ.1 Be.1 (by decide));replace HB:=ak (hb);have aeT:=ak (ho);clear kZ;clear ho hb hg dH))
       go_roundg k2
       case measure=>have:=JQ.1;have:=NI.1;omega
       case rel=>exact⟨alW,(wrap64 (oh+1)),rs,H',⟨by have:=JQ.1;have:=NI.1;omega⟩,⟨ru aeT⟩,⟨by(with_reducible repeat (first|apply Kd.bQ|apply Kd.dh|apply Kd.cR));exact Kd.bJ sC.1 (fun _ hk=>trivial)⟩,⟨bu ez⟩,⟨bl⟩⟩
      ·rw[if_neg L0] at H;have wk:=decide_eq_false L0;clear L0;obtain⟨⟨t201,t204⟩,A26,H⟩:=bi H;(try dsimp only at H);obtain⟨⟨t207,t208⟩,A27,H⟩:=bi H;(try dsimp only at H);have aai:=ak H;clear H;have zA:=cL ez;have zB:=fZ ez
       go_upto_if 51 with(first|((with_reducible refine gc 21 ?_);refine gl 41 Tryz.func21 #[.agg #[.int .i64 az,.int .i64 ax,.int .i64 aA,.int .i64 aC,.int .i64 aV,.int .i64 aX,.slice cN aw.length cF,.slice cy aD.length cA,.slice cC aG.length cB]] ?_;(with_reducible refine(dG.calls k2 az ax aA aC aV aX _ _ aw _ _ aD _ _ aG t201 t204 _ ?di ?gJ ?rz ?Hc ?wC ?Hd A26.1).mono ?_);(case di=>repeat (first|exact(Kd.aj fD.1 HB.1)|(with_reducible refine Kd.cD ?_ _)|(with_reducible refine Kd.cE ?_ _)|(with_reducible refine Kd.cY ?_)));(case gJ=>exact i'.1);(case rz=>repeat (first|exact(Kd.aj iw.1 HB.1)|(with_reducible refine Kd.cD ?_ _)|(with_reducible refine Kd.cE ?_ _)|(with_reducible refine Kd.cY ?_)));(case Hc=>exact ji.1);(case wC=>repeat (first|exact(Kd.aj ix.1 HB.1)|(with_reducible refine Kd.cD ?_ _)|(with_reducible refine Kd.cE ?_ _)|(with_reducible refine Kd.cY ?_)));(case Hd=>exact jS.1);rintro e w30 ⟨auo,aup,rfl,gu,ho1,hb⟩;refine⟨_,rfl,?_⟩;replace kZ:=qr kZ hb;replace sC:=qr sC hb;have wD:=ak (Kd.bO gu (aq bl));have He:=ak (Kd.bO ho1 (aq bl));replace ez:=qk ez hb;replace HB:=qb hb;(try clear hb);(try clear iq);(try clear hk);(try clear hi);(try clear gu);(try clear ho1);have UK:=cL ez;have UL:=fZ ez;obtain⟨aeU,aeV,al0⟩:=Kd.bm wD.1;subst al0)|((with_reducible refine gc 22 ?_);refine gl 48 Tryz.func22 #[.int .i64 aX,.slice aeU t201.length aeV] ?_;(with_reducible refine(iU.calls aX _ _ t201 t207 t208 _ ?di ?gJ A27.1).mono ?_);(case di=>repeat (first|exact(Kd.aW wD.1).2.2|(with_reducible refine Kd.cD ?_ _)|(with_reducible refine Kd.cE ?_ _)|(with_reducible refine Kd.cY ?_)));(case gJ=>exact(Kd.aW wD.1).2.1);rintro e w33 ⟨aur,rfl,gu,hb⟩;refine⟨_,rfl,?_⟩;replace kZ:=qr kZ hb;replace sC:=qr sC hb;replace wD:=qr wD hb;have Xy:=ak (Kd.bO (Kd.sU gu (Kd.pM (ru He))) (aq bl));replace He:=ak (Kd.nF (ru He) (Kd.iE gu) hb);replace ez:=qk ez hb;replace HB:=qb hb;(try clear hb);(try clear iq);(try clear hk);(try clear hi);(try clear gu)))
       (try simp only[Act.put,List.setIfInBounds_toArray,List.set_cons_zero,List.set_cons_succ])
       go_cut [51] (fun v51 wc=>∃(kq:Nat)(EL:Bool),v51= .bool EL∧ae (aT.j2 kq EJ t201 EL az ax aA aC aV aX aw aD aG=some r)∧ae (kq≤k2)∧ae (Kd.R zb 66 wc w.heap.size (fun _=>True) u3 EJ)∧ae (Kd.R uM 107 wc w.heap.size (fun _=>True) (.slice aeU t201.length aeV) t201)∧ae (wc.heap[QH]? =some (.cells #[.int .i64 az,.int .i64 ax,.int .i64 aA,.int .i64 aC,.int .i64 aV,.int .i64 aX,(.slice cN aw.length cF),(.slice cy aD.length cA),(.slice cC aG.length cB)] 28 (0,0)))∧ae (Below w.heap.size w wc))
       case first=>
        have H:=aai.1;clear aai
        by_cases c34:t208=true
        ·subst c34;rw[if_pos rfl] at H;obtain⟨t211,A35,H⟩:=bi H;(try dsimp only at H);have H':=ak H;clear H;have Ef:=cL ez;have Eg:=fZ ez;obtain⟨aeX,aeY,aaj⟩:=Kd.bm kZ.1;subst aaj
         go_wp2_with(first|((with_reducible refine gc 23 ?_);refine gl 62 Tryz.func23 #[.int .i64 (wrap64 (aX*32)),.int .i64 (wrap64 (az*32)),.slice aeX EJ.length aeY] ?_;(with_reducible refine(lG.calls (wrap64 (aX*32)) (wrap64 (az*32)) _ _ EJ t211 _ ?di ?gJ A35.1).mono ?_);(case di=>repeat (first|exact(Kd.aW kZ.1).2.2|(with_reducible refine Kd.cD ?_ _)|(with_reducible refine Kd.cE ?_ _)|(with_reducible refine Kd.cY ?_)));(case gJ=>exact(Kd.aW kZ.1).2.1);rintro e w38 ⟨rfl,hb⟩;refine⟨_,rfl,?_⟩;replace kZ:=qr kZ hb;replace sC:=qr sC hb;replace wD:=qr wD hb;replace He:=qr He hb;replace Xy:=qr Xy hb;replace ez:=qk ez hb;replace HB:=qb hb;(try clear hb);(try clear iq);(try clear hk);(try clear hi)))
         go_meet
         case rel=>exact⟨_,(!t211),rs,H',⟨by have:=JQ.1;have:=NI.1;first|omega|exact Nat.le_refl _⟩,⟨ru kZ⟩,⟨ru wD⟩,⟨bu ez⟩,⟨bl⟩⟩
        ·replace c34:=Bool.eq_false_iff.mpr c34;subst c34;rw[if_neg nf] at H;have H':=ak H;clear H;go_wp2;go_meet
         case rel=>exact⟨_,(!false),rs,H',⟨by have:=JQ.1;have:=NI.1;first|omega|exact Nat.le_refl _⟩,⟨ru kZ⟩,⟨ru wD⟩,⟨bu ez⟩,⟨bl⟩⟩
       case rest=>
        clear aai
        try clear c1
        try clear p1
        try clear q1
        try clear oq
        try clear c2
        try clear p2
        try clear c3
        try clear c5
        try clear p6
        try clear c7
        try clear NH
        try clear L0
        try clear wk
        try clear c19
        try clear tr
        try clear p19
        try clear q19
        try clear aut
        try clear yB
        try clear rv
        try clear c21
        try clear c22
        try clear G5
        try clear c34
        try clear km
        try clear ni
        try clear EE
        try clear zA
        try clear UK
        try clear Ef
        try clear nZ
        try clear po
        try clear ko
        try clear nj
        try clear EI
        try clear zB
        try clear UL
        try clear Eg
        try clear n9
        try clear pq
        try clear UH
        try clear UI
        try clear UJ
        try clear alY
        try clear p2
        try clear alZ
        obtain⟨kq,EL,rfl,HA,auu,kZ,auv,ez,HB⟩:=hcut;cases kq with
        |zero=>exact absurd HA.1 (by simp [aT.j2])
        |succ auw=>
         have H:=HA.1;clear HA;simp only[aT.j2] at H
         by_cases c39:EL=true
         ·subst c39;rw[if_pos rfl] at H;obtain rfl:=Option.some.inj H;go_wp2;go_ret;exact⟨re,bl⟩
         ·replace c39:=Bool.eq_false_iff.mpr c39;subst c39;rw[if_neg nf] at H
          by_cases c40:aV=1
          ·rw[if_pos c40] at H;have aeZ:(aV==1)=true:=beq_iff_eq.mpr c40;have ae0:(aV !=1)=false:=bne_eq_false_iff_eq.mpr c40;clear c40;obtain rfl:=Option.some.inj H;have ajc:=cL ez;have ajd:=fZ ez;go_wp2;go_ret;exact⟨re,bl⟩
          ·rw[if_neg c40] at H;have aeZ:(aV==1)=false:=beq_eq_false_iff_ne.mpr c40;have ae0:(aV !=1)=true:=bne_iff_ne.mpr c40
           by_cases c42:aV=2
           ·rw[if_pos c42] at H;have ae1:(aV==2)=true:=beq_iff_eq.mpr c42;have ae2:(aV !=2)=false:=bne_eq_false_iff_eq.mpr c42;clear c42;obtain rfl:=Option.some.inj H;have aje:=cL ez;have ajf:=fZ ez;obtain⟨auy,auz,al1⟩:=Kd.bm kZ.1;subst al1;go_wp2;go_ret;exact⟨re,bl⟩
           ·rw[if_neg c42] at H;have ae1:(aV==2)=false:=beq_eq_false_iff_ne.mpr c42;have ae2:(aV !=2)=true:=bne_iff_ne.mpr c42;obtain rfl:=Option.some.inj H;have ajg:=cL ez;have ajh:=fZ ez;go_wp2;go_ret;exact⟨re,bl⟩
end Go.Proofs.YtmhdcgmfbjcndaaGreatDoor.P
namespace Go.Proofs.YtmhdcgmfbjcndaaGreatDoor.Pl
open Go.RowKit Go.Proofs.YtmhdcgmfbjcndaaGreatDoor.P Go.Proofs.aa.ag Go.Proofs.aa.ao Go.Proofs.YtmhdcgmfbjcndaaGreatDoor.OR
theorem Hf(k:Nat)(hk:1≤k)(a0 a1 a2 a3:Int):∃b,bZ.f k a0 a1 a2 a3=some b∧(b=true→1≤a0∧a0≤64∧2≤a1∧a1≤32∧2≤a2∧a2≤8∧1≤a3∧a3≤4096):=by
 obtain⟨k,rfl⟩:∃m,k=m+1:=⟨k-1,by omega⟩;unfold bZ.f;simp only[bZ.j0]
 repeat' split
 all_goals (refine⟨_,rfl,fun hb=>?_⟩;first|(cases hb;done)|(simp only[decide_eq_true_eq] at*;omega))
theorem NL(k:Nat)(hk:1≤k)(a0 a1 a2 a3:Int):∃b,df.f k a0 a1 a2 a3=some b:=by
 obtain⟨k,rfl⟩:∃m,k=m+1:=⟨k-1,by omega⟩;unfold df.f;simp only[df.j0]
 repeat' split
 all_goals exact⟨_,rfl⟩
theorem Hg(k:Nat)(hk:1≤k)(a0 a1 a2 a3:Int):∃b,ei.f k a0 a1 a2 a3=some b:=by
 obtain⟨b,h1,h2⟩:=Hf k hk a0 a1 a2 a3;unfold ei.f;rw[h1,Option.bind_some];cases b with
 |false=>simp
 |true=>
  obtain⟨q1,q2,q3,q4,q5,q6,q7,q8⟩:=h2 rfl;rw[if_pos rfl];unfold lU.f;rw[if_pos (by omega),Option.bind_some];split
  ·exact⟨_,rfl⟩
  ·obtain⟨b,h3⟩:=NL k hk 1 2 a3 (2+a3*2+1+a1/2+a2/2+26+a0*4);rw[h3,Option.bind_some];cases b<;>simp
theorem NM(k:Nat)(hk:1≤k)(a0 a1 a2 a3 a4 a5:Int):∃b,bM.f k a0 a1 a2 a3 a4 a5=some b:=by
 obtain⟨x,h1⟩:=Hg k hk a0 a1 a2 a3
 have h2:∃b,eJ.f k a0 a1 a2 a3=some b:=by
  unfold eJ.f;rw[h1,Option.bind_some];split<;>exact⟨_,rfl⟩
 obtain⟨b,h3⟩:=h2;unfold bM.f;rw[h3,Option.bind_some];obtain⟨k,rfl⟩:∃m,k=m+1:=⟨k-1,by omega⟩;simp only[bM.j0]
 repeat' split
 all_goals exact⟨_,rfl⟩
def UM(a0 a1 a2 a3 a4 a5:Int):Bool:=(bM.f 1 a0 a1 a2 a3 a4 a5).getD false
theorem aam(k:Nat)(hk:1≤k)(a0 a1 a2 a3 a4 a5:Int):bM.f k a0 a1 a2 a3 a4 a5=some (UM a0 a1 a2 a3 a4 a5):=by
 obtain⟨b,h⟩:=NM 1 (Nat.le_refl _) a0 a1 a2 a3 a4 a5;rw[Cx (bM.mono a0 a1 a2 a3 a4 a5) hk h];unfold UM;rw[h];rfl
theorem J'(n:Int):∃b,((kY.f n).bind fun bt=>some (bt.2==0))=some b∧(b=true→n≤8):=by
 unfold kY.f
 by_cases h1:n<2
 ·rw[if_pos h1];exact⟨_,rfl,by simp⟩
 ·rw[if_neg h1]
  by_cases h2:n>8
  ·rw[if_pos h2];exact⟨_,rfl,by simp⟩
  ·rw[if_neg h2];split
   ·rw[if_pos (by omega),if_pos (by omega)];exact⟨_,rfl,fun _=>by omega⟩
   ·exact⟨_,rfl,by simp⟩
theorem EM(a b:Int):∃c,fo.f a b=some c:=by
 unfold fo.f
 repeat' split
 all_goals exact⟨_,rfl⟩
theorem Ka(l:List dJ)(hl:l.length≤1000000):∀(d k i:Nat),i+d=l.length→d<k→∃b,bb.l0 k l l (l.length:Int) i=some b∧(b=true→l.length≤8):=by
 intro d
 induction d with
 |zero=>
  intro k i hi hk;obtain⟨k,rfl⟩:∃m,k=m+1:=⟨k-1,by omega⟩;simp only[bb.l0];rw[if_neg (by omega)];obtain⟨b,h,h2⟩:=J' (l.length:Int);exact⟨b,h,fun e=>by have:=h2 e;omega⟩
 |succ d ih=>
  intro k i hi hk;obtain⟨k,rfl⟩:∃m,k=m+1:=⟨k-1,by omega⟩;simp only[bb.l0];have hn:=ih k (i+1) (by omega) (by omega);rw[←rh i (by omega)] at hn;rw[if_pos (by omega),if_pos (by omega),if_pos (by omega)];split
  ·exact hn
  ·unfold du.f;rw[Option.bind_some];split
   ·obtain⟨c,hc⟩:=EM (bK l i).f1.f0 (bK l i).f1.f1;rw[hc,Option.bind_some];split
    ·rw[if_pos (by omega)];unfold kI.f;rw[Option.bind_some];split
     ·exact⟨_,rfl,by simp⟩
     ·exact hn
    ·exact⟨_,rfl,by simp⟩
   ·exact⟨_,rfl,by simp⟩
def uU(l:List dJ):Bool:=(bb.f (l.length+1) l).getD false
theorem Hh(k:Nat)(l:List dJ)(hl:l.length≤1000000)(hk:l.length<k):bb.f k l=some (uU l)∧(uU l=true→l.length≤8):=by
 have h:=Ka l hl l.length (l.length+1) 0 (by omega) (by omega);rw[show((0:Nat):Int)=0 from rfl] at h;obtain⟨b,h1,h2⟩:=h;have h3:bb.f (l.length+1) l=some b:=h1;have h4:uU l=b:=by unfold uU;rw[h3];rfl
 rw[h4];exact⟨Cx (bb.mono l) hk h3,h2⟩
theorem NN(a0 a1 a2 a3 a4 a5:Int)(l6:List cU)(l7:List dJ)(l8:List (List Int))(hl:l6.length≤1000000)(h8:l8.length=l6.length):∀(d k i:Nat),i+d=l6.length→d<k→∃b,dq.l0 k (l6.length:Int) i a0 a1 a2 a3 a4 a5 l6 l7 l8=some b∧(b=true↔∀j:Nat,i≤j→j<l6.length→((dn l8 j).length:Int)=(aM l6 j).f4):=by
 intro d
 induction d with
 |zero=>
  intro k i hi hk;obtain⟨k,rfl⟩:∃m,k=m+1:=⟨k-1,by omega⟩;simp only[dq.l0];rw[if_neg (by omega)];exact⟨true,rfl,fun _ j h1 h2=>by omega,fun _=>rfl⟩
 |succ d ih=>
  intro k i hi hk;obtain⟨k,rfl⟩:∃m,k=m+1:=⟨k-1,by omega⟩;simp only[dq.l0];rw[if_pos (by omega),if_pos (by omega),if_pos (by omega),if_pos (by omega)];obtain⟨b,h1,h2⟩:=ih k (i+1) (by omega) (by omega);rw[←rh i (by omega)] at h1;split
  ·rename_i he
   refine⟨b,h1,h2.trans ⟨fun h j h3 h4=>?_,fun h j h3 h4=>h j (by omega) h4⟩⟩
   by_cases e:j=i
   ·subst e;exact he
   ·exact h j (by omega) h4
  ·rename_i he
   exact⟨false,rfl,fun h=>(by cases h),fun h=>absurd (h i (Nat.le_refl _) (by omega)) he⟩
structure Hi (a1 a2:Int) (l6:List cU) (l7:List dJ) (l8:List (List Int)):Prop where
 ae3:(l6.length:Int)=a1
 ae4:(l7.length:Int)=a2
 len8:l8.length=l6.length
 tab:lH l6=true
 roots:uU l7=true
 rows:∀j:Nat,j<l6.length→((dn l8 j).length:Int)=(aM l6 j).f4
theorem UN(k:Nat)(a0 a1 a2 a3 a4 a5:Int)(l6:List cU)(l7:List dJ)(l8:List (List Int))(hl:l6.length≤1000)(BV:l7.length≤1000)(hk:1004≤k):∃b,dq.f k a0 a1 a2 a3 a4 a5 l6 l7 l8=some b∧(b=true↔Hi a1 a2 l6 l7 l8):=by
 obtain⟨k,rfl⟩:∃m,k=m+1:=⟨k-1,by omega⟩;unfold dq.f;simp only[dq.j0]
 by_cases h1:(l6.length:Int)=a1
 ·rw[if_pos h1]
  by_cases h2:(l7.length:Int)=a2
  ·rw[if_pos h2]
   by_cases h3:(l8.length:Int)=(l6.length:Int)
   ·rw[if_neg (by simp [h3]),xK k l6 (by omega) (by omega),Option.bind_some];cases h4:lH l6 with
    |false=>exact⟨false,by simp,fun h=>(by cases h),fun h=>(by have:=h.tab;rw[h4] at this;cases this)⟩
    |true=>
     rw[if_pos rfl,(Hh k l7 (by omega) (by omega)).1,Option.bind_some];cases h5:uU l7 with
     |false=>exact⟨false,by simp,fun h=>(by cases h),fun h=>(by have:=h.roots;rw[h5] at this;cases this)⟩
     |true=>
      rw[if_pos rfl];obtain⟨b,h6,h7⟩:=NN a0 a1 a2 a3 a4 a5 l6 l7 l8 (by omega) (by omega) l6.length k 0 (by omega) (by omega);rw[show((0:Nat):Int)=0 from rfl] at h6;exact⟨b,h6,h7.trans ⟨fun h=>⟨h1,h2,by omega,h4,h5,fun j hj=>h j (Nat.zero_le _) hj⟩,fun h j _ hj=>h.rows j hj⟩⟩
   ·rw[if_pos (by simp;omega)];exact⟨false,rfl,fun h=>(by cases h),fun h=>absurd (by have:=h.len8;omega) h3⟩
  ·rw[if_neg h2,if_pos (by simp;omega)];exact⟨false,rfl,fun h=>(by cases h),fun h=>absurd h.ae4 h2⟩
 ·rw[if_neg h1,if_pos (by simp;omega)];exact⟨false,rfl,fun h=>(by cases h),fun h=>absurd h.ae3 h1⟩
def fT:List cU→List fl
 |[]=>[]
 |s::l=>if s.f1=true∧s.f2=true then⟨s.f3,s.f4⟩::fT l else fT l
theorem lA:∀(a b:List cU),fT (a++b)=fT a++fT b
 |[],b=>rfl
 |s::a,b=>by
  simp only[List.cons_append,fT];split
  ·rw[lA a b];rfl
  ·exact lA a b
theorem uE:∀l:List cU,(fT l).length≤l.length
 |[]=>Nat.le_refl _
 |s::l=>by
  have:=uE l;simp only[fT,List.length_cons];split
  ·simp only[List.length_cons];omega
  ·omega
theorem NO(l:List cU)(hl:l.length≤1000000):∀(d k i:Nat)(acc:List fl)(ai:List Int),i+d=l.length→d<k→acc.length≤i→ai.length≤i→∃r,dG.l0 k acc ai l (l.length:Int) i=some (acc++fT (l.drop i),r):=by
 intro d
 induction d with
 |zero=>
  intro k i acc ai hi hk ha hb;obtain⟨k,rfl⟩:∃m,k=m+1:=⟨k-1,by omega⟩;simp only[dG.l0];rw[if_neg (by omega),List.drop_of_length_le (by omega)];exact⟨_,by rw[fT,List.append_nil]⟩
 |succ d ih=>
  intro k i acc ai hi hk ha hb;obtain⟨k,rfl⟩:∃m,k=m+1:=⟨k-1,by omega⟩;simp only[dG.l0];rw[List.drop_eq_getElem_cons (show i<l.length by omega),if_pos (by omega),if_pos (by omega),if_pos (by omega),ze l i (by omega)];simp only[fT];rw[rh i (by omega)]
  by_cases h1:l[i].f1=true
  ·rw[if_pos h1]
   by_cases h2:l[i].f2=true
   ·rw[if_pos h2,if_pos (by omega),if_pos (by omega),if_pos ⟨h1,h2⟩];obtain⟨r,hr⟩:=ih k (i+1) (acc++[⟨l[i].f3,l[i].f4⟩]) (ai++[(i:Int)]) (by omega) (by omega) (by simp;omega) (by simp;omega);exact⟨r,by rw[hr,List.append_assoc];rfl⟩
   ·rw[if_neg h2,if_neg (fun h=>h2 h.2)];exact ih k (i+1) acc ai (by omega) (by omega) (by omega) (by omega)
  ·rw[if_neg h1,if_neg (fun h=>h1 h.1)];exact ih k (i+1) acc ai (by omega) (by omega) (by omega) (by omega)
theorem Mf(k:Nat)(a0 a1 a2 a3 a4 a5:Int)(l6:List cU)(l7:List dJ)(l8:List (List Int))(hl:l6.length≤1000000)(hk:l6.length<k):∃r,dG.f k a0 a1 a2 a3 a4 a5 l6 l7 l8=some (fT l6,r):=by
 obtain⟨r,h⟩:=NO l6 hl l6.length k 0 [] [] (by omega) hk (by simp) (by simp);rw[show((0:Nat):Int)=0 from rfl,List.drop_zero,List.nil_append] at h;exact⟨r,h⟩
def oa(n:Int):Int:=if n<1 then 0 else if n>2048 then 0 else(2+(n+7)/8+3)/4*4
theorem Mg(n:Int):∃e,j5.f n=some (oa n,e)∧(1≤n→n≤2048→e=0):=by
 unfold j5.f oa
 by_cases h1:n<1
 ·rw[if_pos h1,if_pos h1];exact⟨_,rfl,fun h=>by omega⟩
 ·rw[if_neg h1,if_neg h1]
  by_cases h2:n>2048
  ·rw[if_pos h2,if_pos h2];exact⟨_,rfl,fun _ h=>by omega⟩
  ·rw[if_neg h2,if_neg h2];unfold tZ.f;rw[Option.bind_some,iz (n:=n+8) (by omega) (by omega),iz (n:=n+8-1) (by omega) (by omega),show Int.tdiv (n+8-1) 8=(n+7)/8 by rw[Int.tdiv_eq_ediv_of_nonneg (by omega)];omega,iz (n:=(n+7)/8) (by omega) (by omega),iz (n:=2+(n+7)/8) (by omega) (by omega),iz (n:=2+(n+7)/8+4) (by omega) (by omega),iz (n:=2+(n+7)/8+4-1) (by omega) (by omega),show Int.tdiv (2+(n+7)/8+4-1) 4=(2+(n+7)/8+3)/4 by rw[Int.tdiv_eq_ediv_of_nonneg (by omega)];omega,iz (n:=(2+(n+7)/8+3)/4) (by omega) (by omega),iz (by omega) (by omega)];exact⟨0,rfl,fun _ _=>rfl⟩
theorem UO(n:Int)(h1:1≤n)(h2:n≤2048):4≤oa n∧oa n%4=0:=by
 unfold oa;rw[if_neg (by omega),if_neg (by omega)];omega
def dE:Nat→List cU→List S64
 |_,[]=>[]
 |i,s::l=>if s.f1=true∧s.f2=false then⟨s.f3,oa s.f4,(i:Int)⟩::dE (i+1) l else dE (i+1) l
theorem jT:∀(a b:List cU)(i:Nat),dE i (a++b)=dE i a++dE (i+a.length) b
 |[],b,i=>rfl
 |s::a,b,i=>by
  simp only[List.cons_append,dE,List.length_cons];rw[jT a b (i+1),show i+1+a.length=i+(a.length+1) by omega];split<;>rfl
theorem gS:∀(l:List cU)(i:Nat),(dE i l).length≤l.length
 |[],_=>Nat.le_refl _
 |s::l,i=>by
  have:=gS l (i+1);simp only[dE,List.length_cons];split
  ·simp only[List.length_cons];omega
  ·omega
theorem NP(l:List cU)(hl:l.length≤1000000):∀(d k i:Nat)(acc:List S64),i+d=l.length→d<k→acc.length≤i→dg.l0 k acc l (l.length:Int) i=some (acc++dE i (l.drop i)):=by
 intro d
 induction d with
 |zero=>
  intro k i acc hi hk ha;obtain⟨k,rfl⟩:∃m,k=m+1:=⟨k-1,by omega⟩;simp only[dg.l0];rw[if_neg (by omega),List.drop_of_length_le (by omega),dE,List.append_nil]
 |succ d ih=>
  intro k i acc hi hk ha;obtain⟨k,rfl⟩:∃m,k=m+1:=⟨k-1,by omega⟩;simp only[dg.l0];rw[List.drop_eq_getElem_cons (show i<l.length by omega),if_pos (by omega),if_pos (by omega),if_pos (by omega),ze l i (by omega)];simp only[dE];rw[rh i (by omega)]
  by_cases h1:l[i].f1=true
  ·rw[if_pos h1];cases h2:l[i].f2 with
   |true=>
    rw[if_pos rfl,if_neg (fun h=>by cases h.2)];exact ih k (i+1) acc (by omega) (by omega) (by omega)
   |false=>
    rw[if_neg (by decide),if_pos ⟨h1,rfl⟩];obtain⟨e,he,_⟩:=Mg l[i].f4;rw[he,Option.bind_some,if_pos (by omega),ih k (i+1) _ (by omega) (by omega) (by simp;omega),List.append_assoc];rfl
  ·rw[if_neg h1,if_neg (fun h=>h1 h.1)];exact ih k (i+1) acc (by omega) (by omega) (by omega)
theorem Mh(k:Nat)(a0 a1 a2 a3 a4 a5:Int)(l6:List cU)(l7:List dJ)(l8:List (List Int))(hl:l6.length≤32)(hk:l6.length<k):dg.f k a0 a1 a2 a3 a4 a5 l6 l7 l8=some (Ay.sorted (dE 0 l6)):=by
 have h:=NP l6 (by omega) l6.length k 0 [] (by omega) hk (by simp);rw[show((0:Nat):Int)=0 from rfl,List.drop_zero,List.nil_append] at h;unfold dg.f dg.u;rw[h,Option.bind_some,if_pos (by have:=gS l6 0;omega)]
def ob(b:S64):eE:=⟨b.f0,b.f1⟩
def mi(l:List cU):List eE:=(Ay.sorted (dE 0 l)).map ob
theorem Hj{l:List S64}{i:Nat}(h:i<l.length):(l.take i).map ob++[⟨l[i].f0,l[i].f1⟩]=(l.take (i+1)).map ob:=by
 rw[List.take_add_one,List.getElem?_eq_getElem h,List.map_append];rfl
structure oc (a0 a1 a2 a3 a4 a5:Int) (l6:List cU) (l7:List dJ) (l8:List (List Int)):Prop where
 sup:UM a0 a1 a2 a3 a4 a5=true
 rows:Hi a1 a2 l6 l7 l8
 laid:(laid a5 (fT l6)).isSome=true
 Hk:eX (wrap64 (a5*32)) (wrap64 (a0*32))
 walk:(bz (wrap64 (a0*32)) [] (wrap64 (a5*32)) (mi l6)).isSome=true
 mode:if a4=1 then fT l6=[] else if a4=2 then mi l6=[] else True
end Go.Proofs.YtmhdcgmfbjcndaaGreatDoor.Pl
