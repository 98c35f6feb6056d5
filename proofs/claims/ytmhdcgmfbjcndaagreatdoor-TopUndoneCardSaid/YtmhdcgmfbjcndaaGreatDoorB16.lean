import Derived.Test.YtmhdcgmfbjcndaaGreatDoorB10
set_option linter.unusedVariables false
set_option linter.unusedSimpArgs false
set_option maxRecDepth 100000
set_option maxHeartbeats 8000000
namespace Go.Proofs.YtmhdcgmfbjcndaaGreatDoor.P
open Go.RowKit Go.Proofs.aa.ag Go.Proofs.aa.ao Go.Proofs.aa.ay
attribute [local go_sem] bD bw cj bV bj bk bG bH
def ie.f(l0:List Int)(dO:Int)(gH o8:Bool)(ig ij:Int):Option (List Int×Bool):=if gH=true then(if o8=true then(if(wrap64 (ig*8))>(l0.length:Int) then(some (([]:List Int),false)) else(if ij>(wrap64 ((l0.length:Int)-(wrap64 (ig*8)))) then(some (([]:List Int),false)) else(if 0≤(wrap64 (ig*8)) then(if(wrap64 (ig*8))≤(wrap64 ((wrap64 (ig*8))+ij)) then(if(wrap64 ((wrap64 (ig*8))+ij))≤(l0.length:Int) then((dv.f ((l0.take ((wrap64 ((wrap64 (ig*8))+ij)):Int).toNat).drop ((wrap64 (ig*8)):Int).toNat)).bind fun ab0=>(some (ab0,true))) else none) else none) else none))) else(if(wrap64 ((wrap64 (ig*8))+8))>(l0.length:Int) then(some (([]:List Int),false)) else(if ij>(wrap64 ((l0.length:Int)-(wrap64 ((wrap64 (ig*8))+8)))) then(some (([]:List Int),false)) else(if 0≤(wrap64 ((wrap64 (ig*8))+8)) then(if(wrap64 ((wrap64 (ig*8))+8))≤(wrap64 ((wrap64 ((wrap64 (ig*8))+8))+ij)) then(if(wrap64 ((wrap64 ((wrap64 (ig*8))+8))+ij))≤(l0.length:Int) then((dv.f ((l0.take ((wrap64 ((wrap64 ((wrap64 (ig*8))+8))+ij)):Int).toNat).drop ((wrap64 ((wrap64 (ig*8))+8)):Int).toNat)).bind fun ab1=>(some (ab1,true))) else none) else none) else none)))) else(some (([]:List Int),true))
theorem ie.calls(A0:Option Addr)(c0:Nat)(l0:List Int)(dO:Int)(gH o8:Bool)(ig ij:Int)(r1:List Int)(r2:Bool)(w:World)(fS:Kd.C (Kd.int .u8) w A0 l0.length l0)(jr:l0.length≤c0)(h:ie.f l0 dO gH o8 ig ij=some (r1,r2)):
 Calls Tryz.prog 76 #[.slice A0 l0.length c0,.agg #[.int .i64 dO,.bool gH,.bool o8,.int .i64 ig,.int .i64 ij]] w fun e w'=>∃kT:Value,e= .returned (.tuple #[kT,.bool r2])∧Kd.R (Kd.int .u8) 5 w' w.heap.size (fun _=>True) kT r1∧Below w.heap.size w w':=by
 have D':=Tryz.underlying43;have jb:=ak fS;have uj:=ak jr;clear fS jr;have HB:=ak (Below.refl w.heap.size w);have H:=ak h;clear h;unfold ie.f at H;replace H:=ib H;rcases H with⟨rfl,H⟩|⟨rfl,H⟩
 ·replace H:=ib H;rcases H with⟨rfl,H⟩|⟨rfl,H⟩
  ·replace H:=ic H;rcases H with⟨iG,H⟩|⟨iG,H⟩
   ·obtain⟨rfl,rfl⟩:=s2 H;go_enter Tryz.func76,Tryz.ntmps76
    go_wp2_with(first|((with_reducible refine gd 3 ?_);(try (refine dy (by rfl) ?_;dsimp only));refine bx 43 #[.int .i64 dO,.bool true,.bool true,.int .i64 ig,.int .i64 ij] ?_;intro Dd hg w6 eh hb;have ky:=ak (eh);have De:=qg hg;replace HB:=qb hb;clear hb eh hg;have nZ:=cL ky;have n9:=fZ ky))
    go_ret2;exact⟨_,re,kn,bl⟩
   ·replace H:=ic H;rcases H with⟨rb,H⟩|⟨rb,H⟩
    ·obtain⟨rfl,rfl⟩:=s2 H;go_enter Tryz.func76,Tryz.ntmps76
     go_wp2_with(first|((with_reducible refine gd 3 ?_);(try (refine dy (by rfl) ?_;dsimp only));refine bx 43 #[.int .i64 dO,.bool true,.bool true,.int .i64 ig,.int .i64 ij] ?_;intro Dd hg w9 eh hb;have ky:=ak (eh);have De:=qg hg;replace HB:=qb hb;clear hb eh hg;have tX:=cL ky;have tY:=fZ ky))
     go_ret2;exact⟨_,re,kn,bl⟩
    ·obtain⟨yg,BQ⟩:∃j_:Int,(wrap64 (ig*8))=j_:=⟨_,rfl⟩;(first|rw[BQ] at H|simp only[BQ] at H);(try rw[BQ] at iG);(try rw[BQ] at rb);have aor:(IntKind.i64.wrap (ig*8))=yg:=(bp _).trans BQ;replace H:=iP H;obtain⟨c12,H⟩:=H;have CQ:=eq_true c12;have arX:=decide_eq_true c12;clear c12;replace H:=iP H;obtain⟨NH,H⟩:=H;have LS:=eq_true NH;have aeC:=decide_eq_true NH;replace H:=iP H;obtain⟨c14,H⟩:=H;have uz:=eq_true c14;have arZ:=decide_eq_true c14;replace H:=bI H;obtain⟨ab0,A15,H⟩:=H;(try dsimp only at H);obtain⟨rfl,rfl⟩:=s2 H;go_enter Tryz.func76,Tryz.ntmps76
     go_wp2_with(first|((with_reducible refine gd 3 ?_);(try (refine dy (by rfl) ?_;dsimp only));refine bx 43 #[.int .i64 dO,.bool true,.bool true,.int .i64 ig,.int .i64 ij] ?_;intro Dd hg M9 eh hb;have ky:=ak (eh);have De:=qg hg;replace HB:=qb hb;clear hb eh hg;have vP:=cL ky;have vQ:=fZ ky;obtain⟨awA,YN,_,YO,_⟩:=info_parts kG;obtain⟨A18,aos,ahk,ahl⟩:=vq (P:=Tryz.prog) (Value.int .u8) 0 33 5 .i64 .i64 Tryz.underlying33 YN YO A0 c0 l0 yg (wrap64 (yg+ij)) dt (by first|omega|exact dt) dt uj.1;have ahm:=ak (Kd.Ah (h1:=fun _=>rfl) (ahk _ (Kd.oR jb.1)));have ahn:=ak ahl;clear ahk ahl YN YO)|((with_reducible refine gc 92 ?_);refine Dk (some 38) rfl rfl Tryz.func92 (by kernel_rfl) rfl #[.slice A18 ((l0.take ((wrap64 (yg+ij)):Int).toNat).drop (yg:Int).toNat).length (c0-(yg).toNat)] rfl (by(try simp only[List.map_toArray,List.map_cons,List.map_nil]);first|done|(rw[show((l0.take ((wrap64 (yg+ij)):Int).toNat).drop (yg:Int).toNat).length=((wrap64 (yg+ij)).toNat-(yg).toNat) from(by rw[List.length_drop,List.length_take];have h_:((wrap64 (yg+ij)):Int)≤(l0.length:Int):=dt;omega)]<;>rfl)|(simp only[BQ];rfl)|rfl|(simp only[List.length_drop,List.length_take];rfl)) ?_;(with_reducible refine(dv.calls _ _ ((l0.take ((wrap64 (yg+ij)):Int).toNat).drop (yg:Int).toNat) ab0 _ ?di ?gJ A15.1).mono ?_);(case di=>repeat (first|exact(Kd.aj ahm.1 HB.1)|(with_reducible refine Kd.cD ?_ _)|(with_reducible refine Kd.cE ?_ _)|(with_reducible refine Kd.cY ?_)));(case gJ=>exact ahn.1);rintro e Nz ⟨awB,rfl,gu,hb⟩;refine⟨_,rfl,?_⟩;have aho:=ak (Kd.bO gu (aq bl));replace ky:=qk ky hb;replace HB:=qb hb;(try clear hb);(try clear iq);(try clear hk);(try clear hi);(try clear gu)))
     go_ret2;exact⟨_,by first|rfl|(simp [gL,gM]<;>rfl)|(simp only[←BQ];first|rfl|(simp [gL,gM]<;>rfl))|(simp [*,gL,gM]<;>rfl),by(with_reducible repeat (first|apply Kd.bQ|apply Kd.dh|apply Kd.cR));exact aho.1,bl⟩
  ·replace H:=ic H;rcases H with⟨rv,H⟩|⟨rv,H⟩
   ·obtain⟨rfl,rfl⟩:=s2 H;go_enter Tryz.func76,Tryz.ntmps76
    go_wp2_with(first|((with_reducible refine gd 3 ?_);(try (refine dy (by rfl) ?_;dsimp only));refine bx 43 #[.int .i64 dO,.bool true,.bool false,.int .i64 ig,.int .i64 ij] ?_;intro Dd hg WX eh hb;have ky:=ak (eh);have De:=qg hg;replace HB:=qb hb;clear hb eh hg;have tV:=cL ky;have tW:=fZ ky))
    go_ret2;exact⟨_,re,kn,bl⟩
   ·replace H:=ic H;rcases H with⟨Bb,H⟩|⟨Bb,H⟩
    ·obtain⟨rfl,rfl⟩:=s2 H;go_enter Tryz.func76,Tryz.ntmps76
     go_wp2_with(first|((with_reducible refine gd 3 ?_);(try (refine dy (by rfl) ?_;dsimp only));refine bx 43 #[.int .i64 dO,.bool true,.bool false,.int .i64 ig,.int .i64 ij] ?_;intro Dd hg ZX eh hb;have ky:=ak (eh);have De:=qg hg;replace HB:=qb hb;clear hb eh hg;have vU:=cL ky;have vV:=fZ ky))
     go_ret2;exact⟨_,re,kn,bl⟩
    ·obtain⟨yh,BR⟩:∃j_:Int,(wrap64 ((wrap64 (ig*8))+8))=j_:=⟨_,rfl⟩;(first|rw[BR] at H|simp only[BR] at H);(try rw[BR] at rv);(try rw[BR] at Bb);have aot:(IntKind.i64.wrap ((wrap64 (ig*8))+8))=yh:=(bp _).trans BR;replace H:=iP H;obtain⟨Tk,H⟩:=H;have YL:=eq_true Tk;have YM:=decide_eq_true Tk;clear Tk;replace H:=iP H;obtain⟨c28,H⟩:=H;have ar1:=eq_true c28;have ar2:=decide_eq_true c28;replace H:=iP H;obtain⟨c29,H⟩:=H;have ar4:=eq_true c29;have ar5:=decide_eq_true c29;replace H:=bI H;obtain⟨ab1,A30,H⟩:=H;(try dsimp only at H);obtain⟨rfl,rfl⟩:=s2 H;go_enter Tryz.func76,Tryz.ntmps76
     go_wp2_with(first|((with_reducible refine gd 3 ?_);(try (refine dy (by rfl) ?_;dsimp only));refine bx 43 #[.int .i64 dO,.bool true,.bool false,.int .i64 ig,.int .i64 ij] ?_;intro Dd hg LX eh hb;have ky:=ak (eh);have De:=qg hg;replace HB:=qb hb;clear hb eh hg;have LY:=cL ky;have LZ:=fZ ky;obtain⟨awD,YP,_,YQ,_⟩:=info_parts kG;obtain⟨A33,aou,ahp,ahq⟩:=vq (P:=Tryz.prog) (Value.int .u8) 0 33 5 .i64 .i64 Tryz.underlying33 YP YQ A0 c0 l0 yh (wrap64 (yh+ij)) dt (by first|omega|exact dt) dt uj.1;have ahr:=ak (Kd.Ah (h1:=fun _=>rfl) (ahp _ (Kd.oR jb.1)));have ahs:=ak ahq;clear ahp ahq YP YQ)|((with_reducible refine gc 92 ?_);refine Dk (some 38) rfl rfl Tryz.func92 (by kernel_rfl) rfl #[.slice A33 ((l0.take ((wrap64 (yh+ij)):Int).toNat).drop (yh:Int).toNat).length (c0-(yh).toNat)] rfl (by(try simp only[List.map_toArray,List.map_cons,List.map_nil]);first|done|(rw[show((l0.take ((wrap64 (yh+ij)):Int).toNat).drop (yh:Int).toNat).length=((wrap64 (yh+ij)).toNat-(yh).toNat) from(by rw[List.length_drop,List.length_take];have h_:((wrap64 (yh+ij)):Int)≤(l0.length:Int):=dt;omega)]<;>rfl)|(simp only[BR];rfl)|rfl|(simp only[List.length_drop,List.length_take];rfl)) ?_;(with_reducible refine(dv.calls _ _ ((l0.take ((wrap64 (yh+ij)):Int).toNat).drop (yh:Int).toNat) ab1 _ ?di ?gJ A30.1).mono ?_);(case di=>repeat (first|exact(Kd.aj ahr.1 HB.1)|(with_reducible refine Kd.cD ?_ _)|(with_reducible refine Kd.cE ?_ _)|(with_reducible refine Kd.cY ?_)));(case gJ=>exact ahs.1);rintro e w34 ⟨awF,rfl,gu,hb⟩;refine⟨_,rfl,?_⟩;have aht:=ak (Kd.bO gu (aq bl));replace ky:=qk ky hb;replace HB:=qb hb;(try clear hb);(try clear iq);(try clear hk);(try clear hi);(try clear gu)))
     go_ret2;exact⟨_,by first|rfl|(simp [gL,gM]<;>rfl)|(simp only[←BR];first|rfl|(simp [gL,gM]<;>rfl))|(simp [*,gL,gM]<;>rfl),by(with_reducible repeat (first|apply Kd.bQ|apply Kd.dh|apply Kd.cR));exact aht.1,bl⟩
 ·obtain⟨rfl,rfl⟩:=s2 H;go_enter Tryz.func76,Tryz.ntmps76
  go_wp2_with(first|((with_reducible refine gd 3 ?_);(try (refine dy (by rfl) ?_;dsimp only));refine bx 43 #[.int .i64 dO,.bool false,.bool o8,.int .i64 ig,.int .i64 ij] ?_;intro Dd hg w35 eh hb;have ky:=ak (eh);have De:=qg hg;replace HB:=qb hb;clear hb eh hg;have Ef:=cL ky;have Eg:=fZ ky))
  go_ret2;exact⟨_,re,kn,bl⟩
def mv.f:Option (Int×Int×Int×Int):=some (2,4,2,60)
theorem mv.calls(r1 r2 r3 r4:Int)(w:World)(h:mv.f=some (r1,r2,r3,r4)):
 Calls Tryz.prog 16 #[] w fun e w'=>e= .returned (.agg #[.int .i64 r1,.int .i64 r2,.int .i64 r3,.int .i64 r4])∧Below w.heap.size w w':=by
 have ND:=Tryz.underlying23;have HB:=ak (Below.refl w.heap.size w);have H:=ak h;clear h;unfold mv.f at H;obtain⟨rfl,rfl,rfl,rfl⟩:=s4 H;go_enter Tryz.func16,Tryz.ntmps16
 go_wp2_with((with_reducible refine gd 0 ?_);refine bY 23 #[.int .i64 0,.int .i64 0,.int .i64 0,.int .i64 0] fun ahF w1 ahG asg HB=>?_;obtain⟨aoB,aoC⟩:=cf ahG)
 refine bodyPost_ret (results_cell_row rfl _ _ ahF 23 #[.int .i64 2,.int .i64 4,.int .i64 2,.int .i64 60] (0,0) _ rfl pk Tryz.underlying23 rfl (by kernel_rfl)) rfl ?_;exact⟨re,bl⟩
def gU.l0:Nat→Int→List cU→Int→Int→Option Int
 |0,_,_,_,_=>none
 |k+1,x3,x7,x8,x9=>if x9<x8 then(if 0≤x9 then(if x9<(x7.length:Int) then if(aM x7 x9).f1=true then gU.l0 k (wrap64 (x3+1)) x7 x8 (wrap64 (x9+1)) else gU.l0 k x3 x7 x8 (wrap64 (x9+1)) else none) else none) else some x3
def gU.f(k:Nat)(az ax aA aC aV aX:Int)(aw:List cU)(aD:List dJ)(aG:List (List Int)):Option Int:=gU.l0 k 0 aw (aw.length:Int) 0
theorem gU.calls(k:Nat)(az ax aA aC aV aX:Int)(cN:Option Addr)(cF:Nat)(aw:List cU)(cy:Option Addr)(cA:Nat)(aD:List dJ)(cC:Option Addr)(cB:Nat)(aG:List (List Int))(r:Int)(w:World)(dZ:Kd.C gW w cN aw.length aw)(ef:aw.length≤cF)(eb:Kd.C gQ w cy aD.length aD)(en:aD.length≤cA)(dL:Kd.C (Kd.slice 5 (Kd.int .u8)) w cC aG.length aG)(ew:aG.length≤cB)(h:gU.f k az ax aA aC aV aX aw aD aG=some r):
 Calls Tryz.prog 17 #[.agg #[.int .i64 az,.int .i64 ax,.int .i64 aA,.int .i64 aC,.int .i64 aV,.int .i64 aX,.slice cN aw.length cF,.slice cy aD.length cA,.slice cC aG.length cB]] w fun e w'=>e= .returned (.int .i64 r)∧Below w.heap.size w w':=by
 have Ba:=Tryz.underlying28;have D':=Tryz.underlying43;have fD:=ak dZ;have i':=ak ef;clear dZ ef;have iw:=ak eb;have ji:=ak en;clear eb en;have ix:=ak dL;have jS:=ak ew;clear dL ew;have HB:=ak (Below.refl w.heap.size w);have H:=ak h;clear h;unfold gU.f at H;go_enter Tryz.func17,Tryz.ntmps17
 go_wp2_with((with_reducible refine gd 1 ?_);refine bY 28 #[.int .i64 az,.int .i64 ax,.int .i64 aA,.int .i64 aC,.int .i64 aV,.int .i64 aX,.slice cN aw.length cF,.slice cy aD.length cA,.slice cC aG.length cB] fun ahH w2 tM ash HB=>?_;obtain⟨QA,QB⟩:=cf tM)
 go_loopg [3,9] k (fun kq v3 v9 w'=>∃(jg:Int)(cH:Int),v3= .int .i64 jg∧v9= .int .i64 cH∧ae (gU.l0 kq jg aw (aw.length:Int) cH=some r)∧ae (kq≤k)∧ae (w'.heap[ahH]? =some (.cells #[.int .i64 az,.int .i64 ax,.int .i64 aA,.int .i64 aC,.int .i64 aV,.int .i64 aX,(.slice cN aw.length cF),(.slice cy aD.length cA),(.slice cC aG.length cB)] 28 (0,0)))∧ae (Below w.heap.size w w'))
 case atStart=>exact⟨0,0,rs,rs,H,⟨Nat.le_refl _⟩,⟨bu tM⟩,⟨bl⟩⟩
 case round=>
  clear H;obtain⟨jg,cH,rfl,rfl,H,iB,tM,HB⟩:=hrel;cases gk with
  |zero=>exact absurd H.1 (by simp [gU.l0])
  |succ k1=>
   simp only[gU.l0] at H;replace H:=ic H;rcases H with⟨jP,H⟩|⟨jP,H⟩
   ·replace H:=iO H;obtain⟨iG,H⟩:=H;replace H:=iO H;obtain⟨lu,H⟩:=H;obtain⟨bq7,qF⟩:=nm ((aM aw cH).f1);rw[←qF.1] at H;replace H:=ib H;rcases H with⟨rfl,H⟩|⟨rfl,H⟩
    ·obtain⟨ahI,ab',Wb,FI,FJ,Wc,Wd⟩:=gq (cw fD) cH dt dt;(try rw[←qF.1] at FI);(try rw[←qF.1] at FJ);cases ab';have aoD:=tp (0≤(cH:Int));have aoE:=tp (cH<(aw.length:Int))
     go_wp2_with((with_reducible refine gd 5 ?_);refine bX 43 #[.int .i64 0,.bool false,.bool false,.int .i64 0,.int .i64 0] fun ahJ w9 SB ahK HB hg hb=>?_;obtain⟨yj,yk⟩:=nn tM hg;replace tM:=qk tM hb;clear hb hg;have afH:=yk.1;have afI:=yj.1;obtain⟨km,ko⟩:=cf SB)
     go_roundg k1
     case measure=>have:=iB.1;omega
     case rel=>exact⟨(wrap64 (jg+1)),(wrap64 (cH+1)),rs,rs,H,⟨by have:=iB.1;omega⟩,⟨bu tM⟩,⟨bl⟩⟩
    ·obtain⟨ahI,ab',Wb,FI,FJ,Wc,Wd⟩:=gq (cw fD) cH dt dt;(try rw[←qF.1] at FI);(try rw[←qF.1] at FJ);cases ab';have aoD:=tp (0≤(cH:Int));have aoE:=tp (cH<(aw.length:Int))
     go_wp2_with((with_reducible refine gd 5 ?_);refine bX 43 #[.int .i64 0,.bool false,.bool false,.int .i64 0,.int .i64 0] fun ahJ SQ SB ahK HB hg hb=>?_;obtain⟨yj,yk⟩:=nn tM hg;replace tM:=qk tM hb;clear hb hg;have asi:=yk.1;have asj:=yj.1;obtain⟨pX,pY⟩:=cf SB)
     go_roundg k1
     case measure=>have:=iB.1;omega
     case rel=>exact⟨jg,(wrap64 (cH+1)),rs,rs,H,⟨by have:=iB.1;omega⟩,⟨bu tM⟩,⟨bl⟩⟩
   ·obtain rfl:=s1 H;go_wp2;go_ret;exact⟨re,bl⟩
end Go.Proofs.YtmhdcgmfbjcndaaGreatDoor.P
namespace Go.Proofs.YtmhdcgmfbjcndaaGreatDoor.OR
open Go.RowKit Go.Proofs.YtmhdcgmfbjcndaaGreatDoor.P Go.Proofs.aa.ag Go.Proofs.aa.ao
theorem iz{n:Int}(h0: -9223372036854775808≤n)(h1:n≤9223372036854775807):wrap64 n=n:=by unfold wrap64;omega
def better(a b:eE):Prop:=a.f1<b.f1∨a.f1=b.f1∧a.f0<b.f0
instance (a b:eE):Decidable (better a b):=by unfold better;infer_instance
def gI(size:Int)(cur:Option eE)(s:eE):Option eE:=
 match cur with
 |none=>if s.f1≥size then some s else none
 |some c=>if s.f1≥size∧better s c then some s else some c
def o7:Option eE→Int×Int×Bool
 |none=>(0,0,false)
 |some s=>(s.f0,s.f1,true)
theorem DT{l:List eE}{i:Nat}(h:i<l.length):l.drop i=bU l i::l.drop (i+1):=xD h
theorem PS(a b:eE):iM.f a.f0 a.f1 b.f0 b.f1=some (decide (better a b)):=by
 by_cases hb:better a b
 ·rw[decide_eq_true hb];unfold better at hb;unfold iM.f
  by_cases h1:a.f1<b.f1
  ·rw[if_pos h1]
  ·rw[if_neg h1,if_pos (by omega),decide_eq_true (by omega)]
 ·rw[decide_eq_false hb];unfold better at hb;unfold iM.f;rw[if_neg (by omega)];split
  ·rw[decide_eq_false (by omega)]
  ·rfl
theorem xH(l:List eE)(size:Int)(hl:l.length≤140737488351232):∀(d k i:Nat)(cur:Option eE),i+d=l.length→d<k→
 ff.l0 k size cur.isSome l (l.length:Int) i (o7 cur).1 (o7 cur).2.1=some (o7 ((l.drop i).foldl (gI size) cur)):=by
 intro d
 induction d with
 |zero=>
  intro k i cur hi hk;obtain⟨k,rfl⟩:∃m,k=m+1:=⟨k-1,by omega⟩;simp only[ff.l0];rw[if_neg (by omega),List.drop_of_length_le (by omega)];cases cur<;>rfl
 |succ d ih=>
  intro k i cur hi hk;obtain⟨k,rfl⟩:∃m,k=m+1:=⟨k-1,by omega⟩;have cX:i<l.length:=by omega
  rw[DT cX,List.foldl_cons];have hn:=fun c=>ih k (i+1) c (by omega) (by omega);simp only[ff.l0];rw[if_pos (by omega),if_pos (by omega),if_pos (by omega),iz (n:=(i:Int)+1) (by omega) (by omega)];have e1:((i:Int)+1)=((i+1:Nat):Int):=by omega
  rw[e1]
  by_cases hs:(bU l i).f1≥size
  ·rw[if_pos hs];cases cur with
   |none=>
    simp only[Option.isSome_none,Bool.false_eq_true,if_false];have:=hn (some (bU l i));simp only[gI,if_pos hs];exact this
   |some c=>
    simp only[Option.isSome_some,if_true];rw[show(o7 (some c)).1=c.f0 from rfl,show(o7 (some c)).2.1=c.f1 from rfl,PS];simp only[Option.bind_some,gI]
    by_cases hb:better (bU l i) c
    ·rw[decide_eq_true hb,if_pos rfl,if_pos ⟨hs,hb⟩];exact hn (some (bU l i))
    ·rw[decide_eq_false hb,if_neg (by decide),if_neg (fun z=>hb z.2)];exact hn (some c)
  ·rw[if_neg hs]
   have e2:gI size cur (bU l i)=cur:=by
    cases cur with
    |none=>simp only[gI,if_neg hs]
    |some c=>simp only[gI];rw[if_neg (fun z=>hs z.1)]
   rw[e2];exact hn cur
theorem TT(l:List eE)(size:Int)(hl:l.length≤140737488351232)(k:Nat)(hk:l.length<k):ff.f k l size=some (o7 (l.foldl (gI size) none)):=
 xH l size hl l.length k 0 none (by omega) hk
def nJ(tt:Int):List eE→Int→List eE→Option (List eE×Int)
 |acc,a,[]=>some (acc,a)
 |acc,a,s::r=>if jY a tt s then nJ tt (er acc a s.f0) (s.f0+s.f1) r else none
def SN(tt:Int):List eE→Int
 |[]=>tt
 |x::_=>x.f0
theorem yw(tt:Int):∀(l1 l2 acc:List eE)(a:Int),bz tt acc a (l1++l2)=(nJ tt acc a l1).bind fun st=>bz tt st.1 st.2 l2:=by
 intro l1
 induction l1 with
 |nil=>intro l2 acc a;rfl
 |cons s l1 ih=>
  intro l2 acc a;simp only[List.cons_append,bz,nJ]
  by_cases h:jY a tt s
  ·rw[if_pos h,if_pos h];exact ih _ _ _
  ·rw[if_neg h,if_neg h];rfl
theorem Gn(acc b:List eE)(a e:Int):er (acc++b) a e=acc++er b a e:=by
 unfold er;split<;>simp
theorem Gp(tt:Int):∀(l acc b:List eE)(a:Int),bz tt (acc++b) a l=(bz tt b a l).map (acc++·):=by
 intro l
 induction l with
 |nil=>intro acc b a;simp only[bz,Gn];rfl
 |cons s l ih=>
  intro acc b a;simp only[bz]
  by_cases h:jY a tt s
  ·rw[if_pos h,if_pos h,Gn,ih]
  ·rw[if_neg h,if_neg h];rfl
structure adN (tt:Int) (acc:List eE) (a:Int) (l xI:List eE) (a':Int):Prop where
 le:a≤a'
 le2:a'≤tt
 m4:a'%4=0
 gap:∀g∈xI,g∈acc∨a≤g.f0∧g.f0<a'
 eS:∀x∈l,a≤x.f0∧x.f0<a'
theorem tg{acc:List eE}{a e:Int}{g:eE}(h:g∈er acc a e):g∈acc∨e>a∧g=⟨a,e-a⟩:=by
 unfold er at h;split at h
 ·rename_i hp
  rcases List.mem_append.1 h with h|h
  ·exact .inl h
  ·exact .inr ⟨hp,List.mem_singleton.1 h⟩
 ·exact .inl h
theorem ZC(tt:Int):∀(l acc:List eE)(a:Int)(xI:List eE)(a':Int),nJ tt acc a l=some (xI,a')→a≤tt→a%4=0→adN tt acc a l xI a':=by
 intro l
 induction l with
 |nil=>
  intro acc a xI a' h ht h4;simp only[nJ,Option.some.injEq,Prod.mk.injEq] at h;obtain⟨rfl,rfl⟩:=h;exact⟨Int.le_refl _,ht,h4,fun g hg=> .inl hg,by simp⟩
 |cons s l ih=>
  intro acc a xI a' h ht h4;simp only[nJ] at h;split at h
  ·rename_i hf
   obtain⟨f1,f2,f3,f4,f5,f6⟩:=hf;obtain⟨i1,i2,i3,i4,i5⟩:=ih _ _ _ _ h (by omega) (by omega);refine⟨by omega,i2,i3,fun g hg=>?_,fun x hx=>?_⟩
   ·rcases i4 g hg with h1|h1
    ·rcases tg h1 with h2|⟨h2,rfl⟩
     ·exact .inl h2
     ·exact .inr ⟨by simp,by simp;omega⟩
    ·exact .inr ⟨by omega,h1.2⟩
   ·rcases List.mem_cons.1 hx with rfl|hx
    ·exact⟨f1,by omega⟩
    ·have:=i5 x hx;exact⟨by omega,this.2⟩
  ·cases h
theorem PT(tt:Int):∀(l acc:List eE)(a:Int)(r:List eE)(s:eE),bz tt acc a l=some r→s∈r→
 s∈acc∨∃l1 l2 xI,l=l1++l2∧nJ tt acc a l1=some (xI,s.f0)∧s.f1=SN tt l2-s.f0∧s.f0<SN tt l2:=by
 intro l
 induction l with
 |nil=>
  intro acc a r s h hs;simp only[bz,Option.some.injEq] at h;subst h;rcases tg hs with h1|⟨h1,rfl⟩
  ·exact .inl h1
  ·exact .inr ⟨[],[],acc,rfl,rfl,rfl,h1⟩
 |cons x l ih=>
  intro acc a r s h hs;simp only[bz] at h;split at h
  ·rename_i hf
   rcases ih _ _ _ _ h hs with h1|⟨l1,l2,xI,rfl,h2,h3,h4⟩
   ·rcases tg h1 with h2|⟨h2,rfl⟩
    ·exact .inl h2
    ·exact .inr ⟨[],x::l,acc,rfl,rfl,rfl,h2⟩
   ·exact .inr ⟨x::l1,l2,xI,rfl,by simp only[nJ];rw[if_pos hf];exact h2,h3,h4⟩
  ·cases h
theorem Na(tt:Int):∀(l acc:List eE)(a:Int)(r:List eE),bz tt acc a l=some r→a≤tt→∀g∈r,g∈acc∨a≤g.f0:=by
 intro l
 induction l with
 |nil=>
  intro acc a r h ht g hg;simp only[bz,Option.some.injEq] at h;subst h;rcases tg hg with h1|⟨h1,rfl⟩
  ·exact .inl h1
  ·exact .inr (Int.le_refl _)
 |cons x l ih=>
  intro acc a r h ht g hg;simp only[bz] at h;split at h
  ·rename_i hf
   obtain⟨f1,f2,f3,f4,f5,f6⟩:=hf;rcases ih _ _ _ h (by omega) g hg with h1|h1
   ·rcases tg h1 with h2|⟨h2,rfl⟩
    ·exact .inl h2
    ·exact .inr (Int.le_refl _)
   ·exact .inr (by omega)
  ·cases h
theorem xJ(tt:Int)(acc:List eE)(a sz:Int)(l2 r:List eE)(ht:tt%4=0)(h4:a%4=0)(hs:4≤sz)(hs4:sz%4=0)(hle:sz≤SN tt l2-a)(ha:a<SN tt l2)(h:bz tt acc a l2=some r)(dH:a≤tt):
 ∃t,bz tt acc a (⟨a,sz⟩::l2)=some (acc++t)∧
  (SN tt l2-a>sz∧(∃t',t=⟨a+sz,SN tt l2-a-sz⟩::t')∨SN tt l2-a=sz∧∀g∈t,a+sz<g.f0):=by
 have hx:SN tt l2≤tt:=by
  cases l2 with
  |nil=>exact Int.le_refl _
  |cons x l2=>
   simp only[bz] at h;split at h
   ·rename_i hf;exact hf.2.1
   ·cases h
 have Ds:jY a tt ⟨a,sz⟩:=⟨Int.le_refl _,dH,hs,by simp only;omega,h4,hs4⟩;have hp0:er acc a a=acc:=by unfold er;rw[if_neg (by omega)]
 simp only[bz];rw[if_pos Ds,hp0];cases l2 with
 |nil=>
  simp only[SN] at hle ha hx⊢;simp only[bz];unfold er
  by_cases cX:tt>a+sz
  ·rw[if_pos cX];exact⟨_,rfl,.inl ⟨by omega,[],by rw[show tt-(a+sz)=tt-a-sz by omega]⟩⟩
  ·rw[if_neg cX];exact⟨[],by simp,.inr ⟨by omega,by simp⟩⟩
 |cons x l2=>
  simp only[SN] at hle ha hx⊢;simp only[bz] at h⊢;split at h
  ·rename_i hf
   have hf':jY (a+sz) tt x:=⟨by omega,hf.2⟩;rw[if_pos hf'];have hw:=Gp tt l2 (er acc a x.f0) [] (x.f0+x.f1);rw[List.append_nil,h] at hw;cases TU:bz tt [] (x.f0+x.f1) l2 with
   |none=>rw[TU] at hw;cases hw
   |some q=>
    have hw3:=Gp tt l2 (er acc (a+sz) x.f0) [] (x.f0+x.f1);rw[List.append_nil,TU] at hw3;rw[hw3];simp only[Option.map_some];have hq:=Na tt l2 [] (x.f0+x.f1) q TU (by have:=hf.2.2.2.1;omega);unfold er
    by_cases cX:x.f0>a+sz
    ·rw[if_pos cX];exact⟨⟨a+sz,x.f0-(a+sz)⟩::q,by simp,.inl ⟨by omega,q,by rw[show x.f0-(a+sz)=x.f0-a-sz by omega]⟩⟩
    ·rw[if_neg cX];refine⟨q,rfl,.inr ⟨by omega,fun g hg=>?_⟩⟩;rcases hq g hg with h1|h1
     ·simp at h1
     ·have:=hf.2.2.1;omega
  ·cases h
theorem Gq(size:Int):∀(l:List eE)(cur:Option eE)(g:eE),l.foldl (gI size) cur=some g→cur=some g∨g∈l∧size≤g.f1
 |[],cur,g,h=> .inl h
 |x::l,cur,g,h=>by
  rw[List.foldl_cons] at h;rcases Gq size l _ g h with h1|h1
  ·unfold gI at h1;cases cur with
   |none=>
    simp only at h1;split at h1
    ·rename_i hs
     obtain rfl:=Option.some.inj h1;exact .inr ⟨List.mem_cons_self,hs⟩
    ·cases h1
   |some c=>
    simp only at h1;split at h1
    ·rename_i hs
     obtain rfl:=Option.some.inj h1;exact .inr ⟨List.mem_cons_self,hs.1⟩
    ·exact .inl h1
  ·exact .inr ⟨List.mem_cons_of_mem _ h1.1,h1.2⟩
theorem PU(tt:Int):∀(l acc:List eE)(a:Int)(r:List eE),bz tt acc a l=some r→∀x∈l,a≤x.f0:=by
 intro l
 induction l with
 |nil=>intro acc a r h x hx;cases hx
 |cons s l ih=>
  intro acc a r h x hx;simp only[bz] at h;split at h
  ·rename_i hf
   rcases List.mem_cons.1 hx with rfl|hx
   ·exact hf.1
   ·have:=ih _ _ _ h x hx;have:=hf.1;have:=hf.2.2.1;omega
  ·cases h
theorem CF(tt:Int):∀(l acc:List eE)(a:Int)(r:List eE),bz tt acc a l=some r→l.Pairwise (fun x y=>x.f0<y.f0):=by
 intro l
 induction l with
 |nil=>intro acc a r h;exact List.Pairwise.nil
 |cons s l ih=>
  intro acc a r h;simp only[bz] at h;split at h
  ·rename_i hf
   refine List.pairwise_cons.2 ⟨fun x hx=>?_,ih _ _ _ h⟩;have:=PU tt l _ _ _ h x hx;have:=hf.2.2.1;omega
  ·cases h
theorem JL(fr tt:Int)(he:eX fr tt)(L r:List eE)(h:bz tt [] fr L=some r)(g:eE)(hg:g∈r)(sz:Int)(hs:4≤sz)(hs4:sz%4=0)(hle:sz≤g.f1):
 0≤g.f0∧g.f0≤2048∧∃L1 L2,L=L1++L2∧(bz tt [] fr (L1++⟨g.f0,sz⟩::L2)).isSome=true:=by
 obtain⟨e1,e2,e3,e4,e5⟩:=he;rcases PT tt L [] fr r g h hg with h1|⟨l1,l2,xI,rfl,h2,h3,h4⟩
 ·cases h1
 ·have hr:=ZC tt l1 [] fr xI g.f0 h2 e2 e4;rw[yw,h2] at h;obtain⟨q,hq,_⟩:=xJ tt xI g.f0 sz l2 r e5 hr.m4 hs hs4 (by omega) h4 h hr.le2;refine⟨by have:=hr.le;omega,by have:=hr.le2;omega,l1,l2,rfl,?_⟩;rw[yw,h2,Option.bind_some,hq];rfl
end Go.Proofs.YtmhdcgmfbjcndaaGreatDoor.OR
namespace Go.Proofs.YtmhdcgmfbjcndaaGreatDoor.OR
open Go.Shelf Go.RowKit Go.Lib Go.Sort Go.Proofs Go.Proofs.YtmhdcgmfbjcndaaGreatDoor.P Go.Proofs.aa.ag Go.Proofs.YtmhdcgmfbjcndaaGreatDoor.Ay
theorem lt_iff(x y:B):ltOf PB x y=decide (x.f0<y.f0):=by
 unfold ltOf PB Gk
 by_cases h1:x.f0<y.f0
 ·rw[if_pos h1];simp [h1]
 ·rw[if_neg h1]
  by_cases h2:y.f0<x.f0
  ·rw[if_pos h2];simp [h1]
  ·rw[if_neg h2];simp [h1]
theorem swo:SWO (ltOf PB) where
 irrefl x:=by rw[lt_iff];simp
 trans x y z h1 h2:=by rw[lt_iff,decide_eq_true_eq] at*;omega
 ntrans x y z h1 h2:=by rw[lt_iff,decide_eq_false_iff_not] at*;omega
theorem qc(xs:List B)(h:xs.length≤64):(sorted xs).Perm xs∧(sorted xs).Pairwise (fun a b=>a.f0≤b.f0):=by
 obtain⟨⟨h1,h2,h3⟩,h4⟩:=Gi swo xs.length xs.toArray (by simp) h;have oL:(nX (ltOf PB) xs.length xs.toArray).size=xs.length:=by rw[h1];simp
 constructor
 ·have e1:∀(d:Array B)(n:Nat),d.size=n→d.extract 0 n=d:=fun d n h=>by subst h;simp
  rw[e1 _ _ oL,e1 _ _ (by simp)] at h3;exact h3
 ·unfold sorted;rw[List.pairwise_iff_getElem];intro i j hi hj YV;rw[Array.length_toList,oL] at hj;have h5:=h4 i j (Nat.zero_le _) YV hj;rw[lt_iff,decide_eq_false_iff_not] at h5;rw[getElem!_pos _ j (by omega),getElem!_pos _ i (by omega)] at h5;simp only[Array.getElem_toList];omega
theorem Cj{xs ys L1 L2:List B}{b:B}(hp:ys.Perm (b::xs))(hx:xs.length≤63)(hs:sorted xs=L1++L2)(h1:∀x∈L1,x.f0<b.f0)(h2:∀x∈L2,b.f0<x.f0)(hd:(sorted xs).Pairwise (fun a b=>a.f0<b.f0)):sorted ys=L1++b::L2:=by
 have hy:=qc ys (by rw[hp.length_eq,List.length_cons];omega);have SP:=qc xs (by omega)
 have Gr:(sorted ys).Perm (L1++b::L2):=by
  refine hy.1.trans (hp.trans ?_);refine(List.Perm.cons b SP.1.symm).trans ?_;rw[hs];exact List.perm_middle.symm
 rw[hs,List.pairwise_append] at hd
 have cX:(L1++b::L2).Pairwise (fun a b=>a.f0<b.f0):=by
  rw[List.pairwise_append];refine⟨hd.1,List.pairwise_cons.2 ⟨h2,hd.2.1⟩,fun x hx y hy=>?_⟩;rcases List.mem_cons.1 hy with rfl|hy
  ·exact h1 x hx
  ·exact hd.2.2 x hx y hy
 refine List.Perm.eq_of_pairwise (le:=fun a b=>a.f0≤b.f0) (fun x y hx hy hxy hyx=>?_) hy.2 (cX.imp fun h=>Int.le_of_lt h) Gr;have hx':=Gr.mem_iff.1 hx;obtain⟨i,hi,rfl⟩:=List.getElem_of_mem hx';obtain⟨j,hj,rfl⟩:=List.getElem_of_mem hy;rw[List.pairwise_iff_getElem] at cX;rcases Nat.lt_trichotomy i j with h|h|h
 ·have:=cX i j hi hj h;omega
 ·subst h;rfl
 ·have:=cX j i hj hi h;omega
end Go.Proofs.YtmhdcgmfbjcndaaGreatDoor.OR
