import Derived.Test.YtmhdcgmfbjcndaaGreatDoorB11
set_option linter.unusedVariables false
set_option linter.unusedSimpArgs false
set_option maxRecDepth 100000
set_option maxHeartbeats 8000000
namespace Go.Proofs.YtmhdcgmfbjcndaaGreatDoor.P
open Go.RowKit Go.Proofs.aa.ag Go.Proofs.aa.ao Go.Proofs.aa.ay
attribute [local go_sem] bD bw cj bV bj bk bG bH
def eM.f(l0 l1:List Int):Option Bool:=some ((strOfNums l0).toList==(strOfNums l1).toList)
theorem eM.calls(A0:Option Addr)(c0:Nat)(l0:List Int)(A1:Option Addr)(c1:Nat)(l1:List Int)(r:Bool)(w:World)(fS:Kd.C (Kd.int .u8) w A0 l0.length l0)(jr:l0.length≤c0)(sM:Kd.C (Kd.int .u8) w A1 l1.length l1)(tT:l1.length≤c1)(h:eM.f l0 l1=some r):
 Calls Tryz.prog 28 #[.slice A0 l0.length c0,.slice A1 l1.length c1] w fun e w'=>e= .returned (.bool r)∧bN w w':=by
 have jb:=ak fS;have uj:=ak jr;clear fS jr;have Qi:=ak sM;have HC1:=ak tT;clear sM tT;have H:=ak h;clear h;unfold eM.f at H;obtain rfl:=s1 H;have avp:=Kd.qN (P:=Tryz.prog) (A:=A0) (c:=c0) Tryz.underlying33 Tryz.underlying5 Tryz.underlying9 jb.1;have avq:=Kd.qN (P:=Tryz.prog) (A:=A1) (c:=c1) Tryz.underlying33 Tryz.underlying5 Tryz.underlying9 Qi.1;go_enter Tryz.func28,Tryz.ntmps28;go_wp2;go_ret;exact⟨by first|rfl|(simp;done)|(simp [*];done),by repeat (first|exact bN.refl _|apply bN.step)⟩
def cM.l0:Nat→List Int→Int→Option (List Int)
 |0,_,_=>none
 |k+1,x0,x1=>if(x0.length:Int)>0 then(if 0≤(wrap64 ((x0.length:Int)-1)) then(if(wrap64 ((x0.length:Int)-1))<(x0.length:Int) then(if(rd x0 (wrap64 ((x0.length:Int)-1)))=x1 then(if(wrap64 ((x0.length:Int)-1))≤(x0.length:Int) then(cM.l0 k (x0.take ((wrap64 ((x0.length:Int)-1)):Int).toNat) x1) else none) else some x0) else none) else none) else some x0
def cM.f(k:Nat)(l0:List Int)(a1:Int):Option (List Int):=cM.l0 k l0 a1
theorem cM.calls(k:Nat)(yM:Nat→Prop)(A0:Option Addr)(c0:Nat)(l0:List Int)(a1:Int)(r:List Int)(w:World)(qC:Kd.V (Kd.int .u8) 5 w w.heap.size (fun k_=>yM k_) (.slice A0 l0.length c0) l0)(h:cM.f k l0 a1=some r):
 Calls Tryz.prog 181 #[.slice A0 l0.length c0,.int .u8 a1] w fun e w'=>∃kT:Value,e= .returned kT∧Kd.V (Kd.int .u8) 5 w' w.heap.size (fun k_=>(yM k_∨w.heap.size≤k_)) kT r∧Below w.heap.size w w':=by
 have HO0:=ak (show Kd.V (Kd.int .u8) 5 w w.heap.size (fun k_=>(yM k_∨w.heap.size≤k_)) (.slice A0 l0.length c0) l0 from Kd.iF qC (fun k_ hk=> .inl hk));have HB:=ak (Below.refl w.heap.size w);have H:=ak h;clear h;unfold cM.f at H;go_enter Tryz.func181,Tryz.ntmps181;go_wp2
 go_loopg [0] k (fun kq v0 w'=>∃(eP:List Int),ae (cM.l0 kq eP a1=some r)∧ae (kq≤k)∧ae (Kd.V (Kd.int .u8) 5 w' w.heap.size (fun k_=>(yM k_∨w.heap.size≤k_)) v0 eP)∧ae (Below w.heap.size w w'))
 case atStart=>exact⟨l0,H,⟨Nat.le_refl _⟩,⟨by(with_reducible repeat (first|apply Kd.cV|apply Kd.cT|apply Kd.dz));exact HO0.1⟩,⟨bl⟩⟩
 case round=>
  clear H;obtain⟨eP,H,iB,fU,HB⟩:=hrel;cases gk with
  |zero=>exact absurd H.1 (by simp [cM.l0])
  |succ k1=>
   simp only[cM.l0] at H;replace H:=iC H;rcases H with⟨c3,H⟩|⟨c3,H⟩
   ·have kU:=decide_eq_true c3;have Eu:decide (0<eP.length)=true:=decide_eq_true (by omega);clear c3;obtain⟨Iv,Vx⟩:∃j_:Int,(wrap64 ((eP.length:Int)-1))=j_:=⟨_,rfl⟩;(first|rw[Vx] at H|simp only[Vx] at H);have arp:(IntKind.i64.wrap ((eP.length:Int)-1))=Iv:=(bp _).trans Vx;replace H:=iO H;obtain⟨iG,H⟩:=H;replace H:=iO H;obtain⟨lu,H⟩:=H;replace H:=iC H;rcases H with⟨c7,H⟩|⟨c7,H⟩
    ·have vO:((rd eP Iv)==a1)=true:=beq_iff_eq.mpr c7;have aaW:((rd eP Iv) !=a1)=false:=bne_eq_false_iff_eq.mpr c7;clear c7;have rb:=eq_true (dt:0≤Iv);replace H:=iP H;obtain⟨c9,H⟩:=H;have AB:=eq_true c9;have Zz:=decide_eq_true c9;clear c9;obtain⟨RG,RH⟩:=nm (eP.take (Iv:Int).toNat);rw[←RH.1] at H;obtain⟨avw,Vy,ank⟩:=Kd.me fU.1;subst ank;obtain⟨MH,abh,Vz⟩:=Kd.nV (Kd.eT fU.1).2.2 Iv dt dt;cases abh;have anl:=tp (0≤(Iv:Int));have anm:=tp (Iv<(eP.length:Int));have q11:(Iv:Int)≤((eP.length:Int):Int):=dt;obtain⟨avx,X4,_,agj,_⟩:=info_parts kG;have MI:eP.length≤Vy:=(Kd.eT fU.1).2.1;have agk:Kd.F (Kd.int .u8) _ _ (some MH) eP.length eP:=(Kd.Ce (base:=w.heap.size) fU.1).2.2;have abi:=xr (P:=Tryz.prog) 33 5 .i64 Tryz.underlying33 X4 (some MH) eP.length Vy Iv dt q11 MI;have abj:=Kd.Dx (m:=(Iv:Int).toNat) agk (by omega);have abk:RG.length=(Iv:Int).toNat:=(by rw[RH.1,List.length_take];omega);rw[←RH.1] at abj;rw[←abk] at abi;have agl:=ak (show Kd.V (Kd.int .u8) 5 _ w.heap.size _ (.slice (some MH) RG.length Vy) RG from Kd.za (by omega) abj);have arq:=ak (show RG.length≤Vy from by omega);clear abj agk MI X4 agj;have avy:=ak abk;clear abk;replace q11:=eq_true q11;go_wp2;go_roundg k1
     case measure=>have:=iB.1;omega
     case rel=>exact⟨RG,H,⟨by have:=iB.1;omega⟩,⟨by(with_reducible repeat (first|apply Kd.cV|apply Kd.cT|apply Kd.dz));exact agl.1⟩,⟨bl⟩⟩
    ·have vO:((rd eP Iv)==a1)=false:=beq_eq_false_iff_ne.mpr c7;have aaW:((rd eP Iv) !=a1)=true:=bne_iff_ne.mpr c7;obtain rfl:=s1 H;obtain⟨avz,avA,ano⟩:=Kd.me fU.1;subst ano;obtain⟨MH,abh,Vz⟩:=Kd.nV (Kd.eT fU.1).2.2 Iv dt dt;cases abh;have anl:=tp (0≤(Iv:Int));have anm:=tp (Iv<(eP.length:Int));go_wp2;go_ret;exact⟨_,by first|rfl|(simp [gL,gM]<;>rfl)|(simp only[←Vx];first|rfl|(simp [gL,gM]<;>rfl))|(simp [*,gL,gM]<;>rfl),by(with_reducible repeat (first|apply Kd.cV|apply Kd.cT|apply Kd.dz));exact fU.1,bl⟩
   ·have kU:=decide_eq_false c3;have Eu:decide (0<eP.length)=false:=decide_eq_false (by omega);clear c3;obtain rfl:=s1 H;obtain⟨rC,rD,Kg⟩:=Kd.me fU.1;subst Kg;go_wp2;go_ret;exact⟨_,re,by(with_reducible repeat (first|apply Kd.cV|apply Kd.cT|apply Kd.dz));exact fU.1,bl⟩
def fL.l0:Nat→List Int→Int→Int→Option (Int×Bool)
 |0,_,_,_=>none
 |k+1,x0,x2,x9=>if x9<8 then(if 0≤(wrap64 (7-x9)) then(if(wrap64 (7-x9))<(x0.length:Int) then fL.l0 k x0 (Go.bits .or .i64 (wrap64 (x2*256)) (wrap64 (rd x0 (wrap64 (7-x9))))) (wrap64 (x9+1)) else none) else none) else some (x2,true)
def fL.f(k:Nat)(l0:List Int):Option (Int×Bool):=if 7<(l0.length:Int) then if(rd l0 7)≥64 then some (0,false) else fL.l0 k l0 0 0 else none
theorem fL.calls(k:Nat)(A0:Option Addr)(c0:Nat)(l0:List Int)(r1:Int)(r2:Bool)(w:World)(fS:Kd.C (Kd.int .u8) w A0 l0.length l0)(jr:l0.length≤c0)(h:fL.f k l0=some (r1,r2)):
 Calls Tryz.prog 163 #[.slice A0 l0.length c0] w fun e w'=>e= .returned (.tuple #[.int .i64 r1,.bool r2])∧bN w w':=by
 have jb:=ak fS;have uj:=ak jr;clear fS jr;have H:=ak h;clear h;unfold fL.f at H;replace H:=iP H;obtain⟨c2,H⟩:=H;have mC:=decide_eq_true c2;have Uq:decide (7<l0.length)=true:=decide_eq_true (by omega);clear c2;replace H:=ic H;rcases H with⟨kU,H⟩|⟨kU,H⟩
 ·obtain⟨rfl,rfl⟩:=s2 H;have KI:0≤(7:Int):=(by omega);have KJ:7<(l0.length:Int):=dt;obtain⟨Ya,abm,wW⟩:=Kd.nV jb.1 7 KI KJ;cases abm;(try simp only[show(7:Int).toNat=7 from rfl,Nat.reduceMul,Nat.reduceEqDiff,Go.Addr.add,↓reduceIte] at wW);have agn:(7<l0.length)=True:=eq_true (by omega);(try rw[show((7:Int)).toNat=7 from rfl] at wW);replace KI:=eq_true KI;replace KJ:=eq_true KJ;go_enter Tryz.func163,Tryz.ntmps163;go_wp2;go_ret2;exact⟨by first|rfl|(simp;done)|(simp [*];done),by repeat (first|exact bN.refl _|apply bN.step)⟩
 ·have KI:0≤(7:Int):=(by omega);have KJ:7<(l0.length:Int):=dt;obtain⟨Ya,abm,wW⟩:=Kd.nV jb.1 7 KI KJ;cases abm;(try simp only[show(7:Int).toNat=7 from rfl,Nat.reduceMul,Nat.reduceEqDiff,Go.Addr.add,↓reduceIte] at wW);have agn:(7<l0.length)=True:=eq_true (by omega);(try rw[show((7:Int)).toNat=7 from rfl] at wW);replace KI:=eq_true KI;replace KJ:=eq_true KJ;go_enter Tryz.func163,Tryz.ntmps163;go_wp2
  go_loopg [2,9] k (fun kq v2 v9 w'=>∃(VB:Int)(cH:Int),v2= .int .i64 VB∧v9= .int .i64 cH∧ae (fL.l0 kq l0 VB cH=some (r1,r2))∧ae (kq≤k)∧bN w w')
  case atStart=>exact⟨0,0,rs,rs,H,⟨Nat.le_refl _⟩,by repeat (first|exact bN.refl _|apply bN.step)⟩
  case round=>
   clear H;obtain⟨VB,cH,rfl,rfl,H,iB,⟨m1,rfl⟩⟩:=hrel;cases gk with
   |zero=>exact absurd H.1 (by simp [fL.l0])
   |succ k1=>
    simp only[fL.l0] at H;replace H:=ic H;rcases H with⟨jP,H⟩|⟨jP,H⟩
    ·obtain⟨ji5,VC⟩:∃j_:Int,(wrap64 (7-cH))=j_:=⟨_,rfl⟩;(first|rw[VC] at H|simp only[VC] at H);have ars:(IntKind.i64.wrap (7-cH))=ji5:=(bp _).trans VC;replace H:=iO H;obtain⟨lu,H⟩:=H;replace H:=iO H;obtain⟨vO,H⟩:=H;obtain⟨agp,anr,ajI⟩:=Kd.nV jb.1 ji5 dt dt;obtain rfl:Ya=agp:=(by injection anr);have avB:=tp (0≤(ji5:Int));have avC:=tp (ji5<(l0.length:Int));go_wp2;go_roundg k1
     case measure=>have:=iB.1;omega
     case rel=>exact⟨(Go.bits .or .i64 (wrap64 (VB*256)) (wrap64 (rd l0 ji5))),(wrap64 (cH+1)),(by first|rfl|(simp;done)|(simp only[←VC]<;>(first|rfl|simp))|(simp [*];done)),rs,H,⟨by have:=iB.1;omega⟩,by repeat (first|exact bN.refl _|apply bN.step)⟩
    ·obtain⟨rfl,rfl⟩:=s2 H;go_wp2;go_ret2;exact⟨by first|rfl|(simp;done)|(simp [*];done),by repeat (first|exact bN.refl _|apply bN.step)⟩
def lX.f(a0:Int):Option Bool:=if a0≥0 then some (decide (a0≤4611686018427387903)) else some false
theorem lX.calls(a0:Int)(r:Bool)(w:World)(h:lX.f a0=some r):
 Calls Tryz.prog 110 #[.int .i64 a0] w fun e w'=>e= .returned (.bool r)∧bN w w':=by
 have H:=ak h;clear h;unfold lX.f at H;replace H:=ic H;rcases H with⟨mC,H⟩|⟨mC,H⟩
 ·obtain rfl:=s1 H;go_enter Tryz.func110,Tryz.ntmps110;go_wp2;go_ret;exact⟨by first|rfl|(simp;done)|(simp [*];done),by repeat (first|exact bN.refl _|apply bN.step)⟩
 ·obtain rfl:=s1 H;go_enter Tryz.func110,Tryz.ntmps110;go_wp2;go_ret;exact⟨by first|rfl|(simp;done)|(simp [*];done),by repeat (first|exact bN.refl _|apply bN.step)⟩
def jU.l0:Nat→Int→Int→Option Int
 |0,_,_=>none
 |k+1,x0,x4=>if x4<8 then if(Go.bits .and .u32 x0 1)=1 then jU.l0 k (Go.bits .xor .u32 (x0/2) 3988292384) (wrap64 (x4+1)) else jU.l0 k (x0/2) (wrap64 (x4+1)) else some x0
def jU.f(k:Nat)(a0:Int):Option Int:=jU.l0 k a0 0
theorem jU.calls(k:Nat)(a0 r:Int)(w:World)(h:jU.f k a0=some r):
 Calls Tryz.prog 191 #[.int .u32 a0] w fun e w'=>e= .returned (.int .u32 r)∧bN w w':=by
 have H:=ak h;clear h;unfold jU.f at H;go_enter Tryz.func191,Tryz.ntmps191;go_wp2
 go_loopg [0,4] k (fun kq v0 v4 w'=>∃(eP:Int)(jG:Int),v0= .int .u32 eP∧v4= .int .i64 jG∧ae (jU.l0 kq eP jG=some r)∧ae (kq≤k)∧bN w w')
 case atStart=>exact⟨a0,0,rs,rs,H,⟨Nat.le_refl _⟩,by repeat (first|exact bN.refl _|apply bN.step)⟩
 case round=>
  clear H;obtain⟨eP,jG,rfl,rfl,H,iB,⟨m1,rfl⟩⟩:=hrel;cases gk with
  |zero=>exact absurd H.1 (by simp [jU.l0])
  |succ k1=>
   simp only[jU.l0] at H;replace H:=ic H;rcases H with⟨mC,H⟩|⟨mC,H⟩
   ·replace H:=iC H;rcases H with⟨c3,H⟩|⟨c3,H⟩
    ·have kU:((Go.bits .and .u32 eP 1)==1)=true:=beq_iff_eq.mpr c3;have Eu:((Go.bits .and .u32 eP 1) !=1)=false:=bne_eq_false_iff_eq.mpr c3;clear c3;go_wp2;go_roundg k1
     case measure=>have:=iB.1;omega
     case rel=>exact⟨(Go.bits .xor .u32 (eP/2) 3988292384),(wrap64 (jG+1)),rs,rs,H,⟨by have:=iB.1;omega⟩,by repeat (first|exact bN.refl _|apply bN.step)⟩
    ·have kU:((Go.bits .and .u32 eP 1)==1)=false:=beq_eq_false_iff_ne.mpr c3;have Eu:((Go.bits .and .u32 eP 1) !=1)=true:=bne_iff_ne.mpr c3;go_wp2;go_roundg k1
     case measure=>have:=iB.1;omega
     case rel=>exact⟨(eP/2),(wrap64 (jG+1)),rs,rs,H,⟨by have:=iB.1;omega⟩,by repeat (first|exact bN.refl _|apply bN.step)⟩
   ·obtain rfl:=s1 H;go_wp2;go_ret;exact⟨by first|rfl|(simp;done)|(simp [*];done),by repeat (first|exact bN.refl _|apply bN.step)⟩
def mq.l0:Nat→Int→List Int→Int→Int→Option Int
 |0,_,_,_,_=>none
 |k+1,x0,x7,x8,x9=>if x9<x8 then(if 0≤x9 then(if x9<(x7.length:Int) then(jU.f k (Go.bits .xor .u32 x0 ((rd x7 x9)%4294967296))).bind fun VD=>(mq.l0 k VD x7 x8 (wrap64 (x9+1))) else none) else none) else some x0
def mq.f(k:Nat)(a0:Int)(l1:List Int):Option Int:=mq.l0 k a0 l1 (l1.length:Int) 0
theorem mq.calls(k:Nat)(a0:Int)(A1:Option Addr)(c1:Nat)(l1:List Int)(r:Int)(w:World)(sM:Kd.C (Kd.int .u8) w A1 l1.length l1)(tT:l1.length≤c1)(h:mq.f k a0 l1=some r):
 Calls Tryz.prog 177 #[.int .u32 a0,.slice A1 l1.length c1] w fun e w'=>e= .returned (.int .u32 r)∧bN w w':=by
 have Qi:=ak sM;have HC1:=ak tT;clear sM tT;have H:=ak h;clear h;unfold mq.f at H;go_enter Tryz.func177,Tryz.ntmps177;go_wp2
 go_loopg [0,9] k (fun kq v0 v9 w'=>∃(eP:Int)(cH:Int),v0= .int .u32 eP∧v9= .int .i64 cH∧ae (mq.l0 kq eP l1 (l1.length:Int) cH=some r)∧ae (kq≤k)∧bN w w')
 case atStart=>exact⟨a0,0,rs,rs,H,⟨Nat.le_refl _⟩,by repeat (first|exact bN.refl _|apply bN.step)⟩
 case round=>
  clear H;obtain⟨eP,cH,rfl,rfl,H,iB,⟨m1,rfl⟩⟩:=hrel;cases gk with
  |zero=>exact absurd H.1 (by simp [mq.l0])
  |succ k1=>
   simp only[mq.l0] at H;replace H:=ic H;rcases H with⟨kU,H⟩|⟨kU,H⟩
   ·replace H:=iO H;obtain⟨jP,H⟩:=H;replace H:=iO H;obtain⟨iG,H⟩:=H;replace H:=bI H;obtain⟨VD,A6,H⟩:=H;(try dsimp only at H);obtain⟨arv,anx,ajK⟩:=Kd.nV Qi.1 cH dt dt;cases anx;have avG:=tp (0≤(cH:Int));have avH:=tp (cH<(l1.length:Int))
    go_wp2_with((with_reducible refine gc 191 ?_);refine gl 17 Tryz.func191 #[.int .u32 (Go.bits .xor .u32 eP ((rd l1 cH)%4294967296))] ?_;(with_reducible refine(jU.calls k1 (Go.bits .xor .u32 eP ((rd l1 cH)%4294967296)) VD _ A6.1).mono ?_);rintro e w' ⟨rfl,⟨nd,rfl⟩⟩;refine⟨_,rfl,?_⟩)
    go_roundg k1
    case measure=>have:=iB.1;omega
    case rel=>exact⟨VD,(wrap64 (cH+1)),rs,rs,H,⟨by have:=iB.1;omega⟩,by repeat (first|exact bN.refl _|apply bN.step)⟩
   ·obtain rfl:=s1 H;go_wp2;go_ret;exact⟨by first|rfl|(simp;done)|(simp [*];done),by repeat (first|exact bN.refl _|apply bN.step)⟩
def nP.f(az ax:Int):Option (Int×Int):=(fo.f az ax).bind fun agt=>(if agt=true then some (wrap64 ((wrap64 ((wrap64 (az*65536))+ax))+1),0) else some (0,1))
theorem nP.calls(az ax r1 r2:Int)(w:World)(h:nP.f az ax=some (r1,r2)):
 Calls Tryz.prog 103 #[.agg #[.int .i64 az,.int .i64 ax]] w fun e w'=>e= .returned (.tuple #[.int .i64 r1,.int .i64 r2])∧Below w.heap.size w w':=by
 have JT:=Tryz.underlying32;have HB:=ak (Below.refl w.heap.size w);have H:=ak h;clear h;unfold nP.f at H;replace H:=bI H;obtain⟨agt,A2,H⟩:=H;(try dsimp only at H);replace H:=ib H;rcases H with⟨rfl,H⟩|⟨rfl,H⟩
 ·obtain⟨rfl,rfl⟩:=s2 H;go_enter Tryz.func103,Tryz.ntmps103
  go_wp2_with(first|((with_reducible refine gd 1 ?_);refine bY 32 #[.int .i64 az,.int .i64 ax] fun agu w4 yO agv HB=>?_;obtain⟨Ea,Eb⟩:=cf yO)|((with_reducible refine gc 80 ?_);refine gl 5 Tryz.func80 #[.agg #[.int .i64 az,.int .i64 ax]] ?_;(with_reducible refine(fo.calls az ax true _ A2.1).mono ?_);rintro e w6 ⟨rfl,hb⟩;refine⟨_,rfl,?_⟩;replace yO:=qk yO hb;replace HB:=qb hb;clear hb;obtain⟨nZ,n9⟩:=cf yO))
  go_ret2;exact⟨re,bl⟩
 ·obtain⟨rfl,rfl⟩:=s2 H;go_enter Tryz.func103,Tryz.ntmps103
  go_wp2_with(first|((with_reducible refine gd 1 ?_);refine bY 32 #[.int .i64 az,.int .i64 ax] fun agu w8 yO agv HB=>?_;obtain⟨po,pq⟩:=cf yO)|((with_reducible refine gc 80 ?_);refine gl 5 Tryz.func80 #[.agg #[.int .i64 az,.int .i64 ax]] ?_;(with_reducible refine(fo.calls az ax false _ A2.1).mono ?_);rintro e rN ⟨rfl,hb⟩;refine⟨_,rfl,?_⟩;replace yO:=qk yO hb;replace HB:=qb hb;clear hb))
  go_ret2;exact⟨re,bl⟩
def ej.l0:Nat→List Int→List Int→Option (List Int×Bool)
 |0,_,_=>none
 |k+1,x0,x4=>if(x0.length:Int)>0 then(if 8≤(x0.length:Int) then((fL.f k (x0.take 8)).bind fun Yv=>(if Yv.2=true then if x4.length<17592186044416 then ej.l0 k (x0.drop 8) (x4++[Yv.1]) else none else(some (([]:List Int),false)))) else none) else some (x4,true)
def ej.f(k:Nat)(l0:List Int):Option (List Int×Bool):=if((l0.length:Int)%8)=0 then(ej.l0 k l0 ([]:List Int)) else(some (([]:List Int),false))
def ej.T8:Bool×List (List Nat×List Nat):=(true,[([],[]),([],[]),([1],[1]),([0,2],[0,2]),([],[]),([4],[4]),([3,3,0,1,2,3],[0,3]),([5,6,0,1,2,3,4,5,6],[4,5])])
def ej.B8:List Nat:=[0,0,2,7,0,16,15,127]
theorem ej.abE:mb .any (opsOf Tryz.f122 8)=ej.T8:=by kernel_rfl
theorem ej.Sg:kR ej.T8.2 ej.B8=true:=by kernel_rfl
theorem ej.calls(k:Nat)(yM:Nat→Prop)(A0:Option Addr)(c0:Nat)(l0 r1:List Int)(r2:Bool)(w:World)(qC:Kd.V (Kd.int .u8) 5 w w.heap.size (fun k_=>yM k_) (.slice A0 l0.length c0) l0)(h:ej.f k l0=some (r1,r2)):
 Calls Tryz.prog 122 #[.slice A0 l0.length c0] w fun e w'=>∃kT:Value,e= .returned (.tuple #[kT,.bool r2])∧Kd.R (Kd.int .i64) 3 w' w.heap.size (fun k_=>(w.heap.size≤k_)) kT r1∧Below w.heap.size w w':=by
 have HO0:=ak (show Kd.V (Kd.int .u8) 5 w w.heap.size (fun k_=>(yM k_∨w.heap.size≤k_)) (.slice A0 l0.length c0) l0 from Kd.iF qC (fun k_ hk=> .inl hk));have HB:=ak (Below.refl w.heap.size w);have H:=ak h;clear h;unfold ej.f at H;replace H:=iC H;rcases H with⟨c2,H⟩|⟨c2,H⟩
 ·have mC:(((l0.length:Int)%8)==0)=true:=beq_iff_eq.mpr c2;have Uq:(((l0.length:Int)%8) !=0)=false:=bne_eq_false_iff_eq.mpr c2;clear c2;go_enter Tryz.func122,Tryz.ntmps122;go_wp2
  go_loopg [0,4] k (fun kq v0 v4 w'=>∃(eP:List Int)(jG:List Int),ae (ej.l0 kq eP jG=some (r1,r2))∧ae (kq≤k)∧ae (Kd.V (Kd.int .u8) 5 w' w.heap.size (fun k_=>(yM k_∨w.heap.size≤k_)∧some k_≠(v4:Value).ownBlock) v0 eP)∧ae (Kd.R (Kd.int .i64) 3 w' w.heap.size (fun k_=>(w.heap.size≤k_)) v4 jG)∧ae (Below w.heap.size w w'))
  case atStart=>exact⟨l0,(([]:List Int)),H,⟨Nat.le_refl _⟩,⟨by(with_reducible repeat (first|apply Kd.cV|apply Kd.cT|apply Kd.dz));exact Kd.iF HO0.1 (fun _ hk=>⟨hk,(by simp [Value.ownBlock])⟩)⟩,⟨kn⟩,⟨bl⟩⟩
  case round=>
   clear H;obtain⟨eP,jG,H,iB,fU,dI,HB⟩:=hrel;cases gk with
   |zero=>exact absurd H.1 (by simp [ej.l0])
   |succ k1=>
    simp only[ej.l0] at H;replace H:=iC H;rcases H with⟨c3,H⟩|⟨c3,H⟩
    ·have kU:=decide_eq_true c3;have Eu:decide (0<eP.length)=true:=decide_eq_true (by omega);clear c3;replace H:=iP H;obtain⟨c4,H⟩:=H;have jP:=eq_true c4;have Nd:=decide_eq_true c4;clear c4;obtain⟨xd,IJ⟩:=nm (eP.take 8);rw[←IJ.1] at H;replace H:=bI H;obtain⟨⟨Sh,av9⟩,A5,H⟩:=H;(try dsimp only at H);replace H:=ib H;rcases H with⟨rfl,H⟩|⟨rfl,H⟩
     ·replace H:=iQ H;obtain⟨an8,H⟩:=H;obtain⟨an9,Yw⟩:=nm (jG++[Sh]);rw[←Yw.1] at H;have rb:=eq_true (dt:8≤(eP.length:Int));obtain⟨IK,Si⟩:=nm (eP.drop 8);rw[←Si.1] at H;obtain⟨OV,Mk,eo9⟩:=Kd.me fU.1;subst eo9;have q10:(8:Int)≤((eP.length:Int):Int):=dt;obtain⟨av',Yx,_,ag3,_⟩:=info_parts kG;have MO:eP.length≤Mk:=(Kd.eT fU.1).2.1;have ag4:Kd.F (Kd.int .u8) _ _ OV eP.length eP:=(Kd.Ce (base:=w.heap.size) fU.1).2.2;have abF:=xr (P:=Tryz.prog) 33 5 .i64 Tryz.underlying33 Yx OV eP.length Mk 8 (by omega) q10 MO;have abG:=Kd.Dx (m:=8) ag4 (by omega);have abH:xd.length=(8:Int).toNat:=(by rw[IJ.1,List.length_take];omega);rw[←IJ.1] at abG;rw[←abH] at abF;have pH:=ak (show Kd.V (Kd.int .u8) 5 _ w.heap.size _ (.slice OV xd.length Mk) xd from Kd.za (by omega) abG);have ag5:=ak (show xd.length≤Mk from by omega);clear abG ag4 MO Yx ag3;have awa:=ak abH;clear abH;replace q10:=eq_true q10
      try go_wp2_with((with_reducible refine gc 163 ?_);refine gl 17 Tryz.func163 #[.slice OV xd.length Mk] ?_;(with_reducible refine(fL.calls k1 _ _ xd Sh true _ ?di ((Kd.eT pH.1).2.1) A5.1).mono ?_);(case di=>repeat (first|exact(Kd.eT pH.1).2.2|(with_reducible refine Kd.cD ?_ _)|(with_reducible refine Kd.cE ?_ _)|(with_reducible refine Kd.cY ?_)));rintro e w' ⟨rfl,⟨nd,rfl⟩⟩;refine⟨_,rfl,?_⟩)
      (try (rw[Jt wr];generalize hq_:World.drewN wr _=wr;have iR:ae (Kd.V (Kd.int .u8) 5 wr w.heap.size (fun k_=>(yM k_∨w.heap.size≤k_)∧some k_≠(u4:Value).ownBlock) (.slice OV xd.length Mk) xd):=⟨by rw[←hq_];exact(by(with_reducible repeat (first|apply Kd.cV|apply Kd.cT|apply Kd.dz));exact pH.1)⟩;have iT:ae (Kd.V (Kd.int .u8) 5 wr w.heap.size (fun k_=>(yM k_∨w.heap.size≤k_)∧some k_≠(u4:Value).ownBlock) (.slice OV eP.length Mk) eP):=⟨by rw[←hq_];exact(by(with_reducible repeat (first|apply Kd.cV|apply Kd.cT|apply Kd.dz));exact fU.1)⟩;have jQ:ae (Kd.R (Kd.int .i64) 3 wr w.heap.size (fun k_=>(w.heap.size≤k_)) u4 jG):=⟨by rw[←hq_];exact(ru dI)⟩;have lP:ae (Below w.heap.size w wr):=⟨by rw[←hq_];exact bl⟩;clear pH fU dI HB hq_;have pH:=iR;have fU:=iT;have dI:=jQ;have HB:=lP;clear iR iT jQ lP));have iR:=ak (Kd.dz fU.1);have iT:=ak (Kd.cR dI.1);have jQ:=ak (Kd.dz pH.1);have lP:=ak (eZ HB.1);clear fU;clear dI;clear pH;clear HB;have fU:=iR;have dI:=iT;have pH:=jQ;have HB:=lP;clear iR iT jQ lP;have q12:(8:Int)≤((eP.length:Int):Int):=dt;obtain⟨awb,Yy,_,Yz,_⟩:=info_parts kG;have zS:eP.length≤Mk:=(Kd.eT fU.1).2.1;have ag7:Kd.F (Kd.int .u8) _ _ OV eP.length eP:=(Kd.Ce (base:=w.heap.size) fU.1).2.2;have abI:=F8 (P:=Tryz.prog) 33 5 .i64 Tryz.underlying33 Yy 1 Yz OV eP.length Mk 8 (by omega) q12;have Sj:=Kd.WE (m:=(8:Int).toNat) (c:=Mk) ag7 (by omega) zS;obtain⟨A12,VT⟩:∃A1,A1=(if Mk=(8:Int).toNat then OV else(OV:Option Addr).map (·.add ((8:Int).toNat*1))):=⟨_,rfl⟩;obtain⟨c12,VU⟩:∃c1,c1=Mk-(8:Int).toNat:=⟨_,rfl⟩;have Sk:IK.length=eP.length-(8:Int).toNat:=(by rw[Si.1,List.length_drop]<;>omega);rw[show(eP).drop (8:Int).toNat=IK from Si.1.symm] at Sj;replace Sj:Kd.F (Kd.int .u8) _ _ A12 IK.length IK:=(by rw[VT];exact Sj);rw[←Sk,←VT,←VU] at abI;have IL:=ak (show Kd.V (Kd.int .u8) 5 _ w.heap.size _ (.slice A12 IK.length c12) IK from Kd.za (by rw[Sk,VU];exact Nat.sub_le_sub_right zS _) Sj);have arO:=ak (show IK.length≤c12 from by rw[Sk,VU];exact Nat.sub_le_sub_right zS _);clear Sj ag7 zS Yy Yz VU;have awc:=ak Sk;have awd:=ak VT;clear Sk VT;replace q12:=eq_true q12;refine eW (n:=8) (S:=fun w'=>True) (ds:=[]) #[false,false,false,false,false,false,false,false] (by kernel_rfl) rfl rfl trivial (fun hHeld=>?_);refine je ej.abE ej.Sg (fun eU u9=>?_);generalize wr.drew=w11 at fU dI pH HB IL hHeld⊢;refine dd (i:=0) (N:=some 22) (v:= ?_) (a':= ?_) #[true,false,false,false,false,false,false,false] rfl rfl (cv eU.1 (by kernel_rfl)) (fun _ _ _ h=>h) (Or.inl ⟨by rfl,?_⟩) ?_ ?_;rotate_left
      ·intro w'
       go_simp
       with_reducible rfl
      rotate_left
      ·simp only[Act.put,List.setIfInBounds_toArray,List.set_cons_zero,List.set_cons_succ,bp,bF];rfl
      refine dd (i:=1) (N:=some 23) (v:= ?_) (a':= ?_) #[true,true,false,false,false,false,false,false] rfl rfl (cv eU.1 (by kernel_rfl)) (fun _ _ _ h=>h) (Or.inl ⟨by rfl,?_⟩) ?_ ?_;rotate_left
      ·intro w'
       go_simp
       with_reducible rfl
      rotate_left
      ·simp only[Act.put,List.setIfInBounds_toArray,List.set_cons_zero,List.set_cons_succ,bp,bF];rfl
      refine dd (i:=4) (N:=some 26) (v:= ?_) (a':= ?_) #[true,true,false,false,true,false,false,false] rfl rfl (cv eU.1 (by kernel_rfl)) (fun _ _ _ h=>h) (Or.inl ⟨by rfl,?_⟩) ?_ ?_;rotate_left
      ·intro w'
       go_simp
       with_reducible rfl
      rotate_left
      ·simp only[Act.put,List.setIfInBounds_toArray,List.set_cons_zero,List.set_cons_succ,bp,bF];rfl
      refine dd (i:=5) (N:=some 27) (v:= ?_) (a':= ?_) #[true,true,false,false,true,true,false,false] rfl rfl (cv eU.1 (by kernel_rfl)) (fun _ _ _ h=>h) (Or.inl ⟨by rfl,?_⟩) ?_ ?_;rotate_left
      ·intro w'
       go_simp
       with_reducible rfl
      rotate_left
      ·simp only[Act.put,List.setIfInBounds_toArray,List.set_cons_zero,List.set_cons_succ,bp,bF];rfl
      refine qB (i:=2) (N:=some 24) #[true,true,true,false,true,true,false,false] rfl rfl (fR eU.1 (by kernel_rfl)) (by decide) (fun K hK=>?_);refine nQ ?_;refine ft hK (fun hHeld=>?_) trivial;clear hK K;refine qB (i:=3) (N:=some 25) #[true,true,true,true,true,true,false,false] rfl rfl (fR eU.1 (by kernel_rfl)) (by decide) (fun K hK=>?_);refine Kd.uo (Kd.int .i64) (w0:=w) w.heap.size (by rfl) (.tmp 22) (.tmp 24) 68 3 (.int .i64 0) 8 rfl Tryz.underlying68 pT rfl (by decide) (by omega) u4 jG Sh [.int .i64 Sh] (fun k_=>(w.heap.size≤k_)) (fun _=>False) rfl rfl ?aP (fun _ hk=>hk.elim) ?aF ?aO ?aB ?aS ?aL ?_;(case aP=>exact rfl);(case aB=>exact bl);(case aF=>exact(fun k_ hk=>(Nat.le_trans (aq bl) hk)));(case aO=>exact(ru dI));(case aS=>exact(aq bl));(case aL=>have:=an8.1;omega);intro awe WW ho hb hg dH;rw[←Yw.1] at ho;have iR:=ak (Kd.oW (ok:=(fun k_=>(yM k_∨w.heap.size≤k_))) (by(with_reducible repeat (first|apply Kd.cV|apply Kd.cT|apply Kd.dz));exact fU.1) hg dH);have iT:=ak (Kd.oW (ok:=(fun k_=>(yM k_∨w.heap.size≤k_))) (by(with_reducible repeat (first|apply Kd.cV|apply Kd.cT|apply Kd.dz));exact pH.1) hg dH);have jQ:=ak (Kd.oW (ok:=(fun k_=>(yM k_∨w.heap.size≤k_))) (by(with_reducible repeat (first|apply Kd.cV|apply Kd.cT|apply Kd.dz));exact IL.1) hg dH);have lP:=ak hb;have tA:=ak ho;clear fU;clear pH;clear IL;clear HB;clear dI;have fU:=iR;have pH:=iT;have IL:=jQ;have HB:=lP;have ag8:=tA;clear iR iT jQ lP tA;clear ho hb hg dH;refine ft hK (fun hHeld=>?_) trivial;clear hK K;refine dd (i:=6) (N:=some 4) (v:= ?_) (a':= ?_) #[true,true,true,true,true,true,true,false] rfl rfl (cv eU.1 (by kernel_rfl)) (fun _ _ _ h=>h) (Or.inl ⟨by rfl,?_⟩) ?_ ?_;rotate_left
      ·intro w'
       go_simp
       with_reducible rfl
      rotate_left
      ·simp only[Act.put,List.setIfInBounds_toArray,List.set_cons_zero,List.set_cons_succ,bp,bF];rfl
      refine dd (i:=7) (N:=some 0) (v:= ?_) (a':= ?_) #[true,true,true,true,true,true,true,true] rfl rfl (cv eU.1 (by kernel_rfl)) (fun _ _ _ h=>h) (Or.inl ⟨by rfl,?_⟩) ?_ ?_;rotate_left
      ·intro w'
       go_simp
       with_reducible rfl
      rotate_left
      ·simp only[Act.put,List.setIfInBounds_toArray,List.set_cons_zero,List.set_cons_succ,bp,bF];rfl
      refine gF (mc eU.1 (by kernel_rfl)) ?_
      try go_wp2
      go_roundg k1
      case measure=>have:=iB.1;omega
      case rel=>exact⟨IK,an9,H,⟨by have:=iB.1;omega⟩,⟨by(with_reducible repeat (first|apply Kd.cV|apply Kd.cT|apply Kd.dz));exact IL.1⟩,⟨ru ag8⟩,⟨bl⟩⟩
     ·obtain⟨rfl,rfl⟩:=s2 H;obtain⟨sA,pI,abJ⟩:=Kd.me fU.1;subst abJ;have q15:(8:Int)≤((eP.length:Int):Int):=dt;obtain⟨awf,YA,_,ag9,_⟩:=info_parts kG;have MQ:eP.length≤pI:=(Kd.eT fU.1).2.1;have ag':Kd.F (Kd.int .u8) _ _ sA eP.length eP:=(Kd.Ce (base:=w.heap.size) fU.1).2.2;have abK:=xr (P:=Tryz.prog) 33 5 .i64 Tryz.underlying33 YA sA eP.length pI 8 (by omega) q15 MQ;have abL:=Kd.Dx (m:=8) ag' (by omega);have abM:xd.length=(8:Int).toNat:=(by rw[IJ.1,List.length_take];omega);rw[←IJ.1] at abL;rw[←abM] at abK;have pH:=ak (show Kd.V (Kd.int .u8) 5 _ w.heap.size _ (.slice sA xd.length pI) xd from Kd.za (by omega) abL);have ag5:=ak (show xd.length≤pI from by omega);clear abL ag' MQ YA ag9;have awg:=ak abM;clear abM;replace q15:=eq_true q15
      go_wp2_with((with_reducible refine gc 163 ?_);refine gl 17 Tryz.func163 #[.slice sA xd.length pI] ?_;(with_reducible refine(fL.calls k1 _ _ xd Sh false _ ?di ((Kd.eT pH.1).2.1) A5.1).mono ?_);(case di=>repeat (first|exact(Kd.eT pH.1).2.2|(with_reducible refine Kd.cD ?_ _)|(with_reducible refine Kd.cE ?_ _)|(with_reducible refine Kd.cY ?_)));rintro e w' ⟨rfl,⟨nd,rfl⟩⟩;refine⟨_,rfl,?_⟩)
      go_ret2;exact⟨_,re,kn,bl⟩
    ·have kU:=decide_eq_false c3;have Eu:decide (0<eP.length)=false:=decide_eq_false (by omega);clear c3;obtain⟨rfl,rfl⟩:=s2 H;obtain⟨awh,awi,aob⟩:=Kd.me fU.1;subst aob;go_wp2;go_ret2;exact⟨_,re,by(with_reducible repeat (first|apply Kd.bQ|apply Kd.dh|apply Kd.cR));exact dI.1,bl⟩
 ·have mC:(((l0.length:Int)%8)==0)=false:=beq_eq_false_iff_ne.mpr c2;have Uq:(((l0.length:Int)%8) !=0)=true:=bne_iff_ne.mpr c2;obtain⟨rfl,rfl⟩:=s2 H;go_enter Tryz.func122,Tryz.ntmps122;go_wp2;go_ret2;exact⟨_,re,kn,bl⟩
def rL.f(a0:Int):Option (Int×Int×Bool):=if a0<1 then some (0,0,false) else if a0>2097152 then some (0,0,false) else some (wrap64 (Int.tdiv (wrap64 (a0-1)) 65536),Int.tmod (wrap64 (a0-1)) 65536,true)
theorem rL.calls(a0 r1 r2:Int)(r3:Bool)(w:World)(h:rL.f a0=some (r1,r2,r3)):
 Calls Tryz.prog 125 #[.int .i64 a0] w fun e w'=>e= .returned (.tuple #[.agg #[.int .i64 r1,.int .i64 r2],.bool r3])∧Below w.heap.size w w':=by
 have JT:=Tryz.underlying32;have HB:=ak (Below.refl w.heap.size w);have H:=ak h;clear h;unfold rL.f at H;replace H:=ic H;rcases H with⟨mC,H⟩|⟨mC,H⟩
 ·obtain⟨rfl,rfl,rfl⟩:=s3 H;go_enter Tryz.func125,Tryz.ntmps125
  go_wp2_with((with_reducible refine gd 2 ?_);refine bY 32 #[.int .i64 0,.int .i64 0] fun IU w3 IV YC HB=>?_;obtain⟨Ed,Ee⟩:=cf IV)
  refine bodyPost_ret (fY rfl _ _ IU 32 #[.int .i64 0,.int .i64 0] (0,0) _ rfl pk Tryz.underlying32 rfl (by kernel_rfl)) rfl ?_;exact⟨re,bl⟩
 ·replace H:=ic H;rcases H with⟨iG,H⟩|⟨iG,H⟩
  ·obtain⟨rfl,rfl,rfl⟩:=s3 H;go_enter Tryz.func125,Tryz.ntmps125
   go_wp2_with((with_reducible refine gd 2 ?_);refine bY 32 #[.int .i64 0,.int .i64 0] fun IU w6 IV YC HB=>?_;obtain⟨nZ,n9⟩:=cf IV)
   refine bodyPost_ret (fY rfl _ _ IU 32 #[.int .i64 0,.int .i64 0] (0,0) _ rfl pk Tryz.underlying32 rfl (by kernel_rfl)) rfl ?_;exact⟨re,bl⟩
  ·obtain⟨rfl,rfl,rfl⟩:=s3 H;go_enter Tryz.func125,Tryz.ntmps125
   go_wp2_with((with_reducible refine gd 2 ?_);refine bY 32 #[.int .i64 0,.int .i64 0] fun IU w8 IV YC HB=>?_;obtain⟨po,pq⟩:=cf IV)
   refine bodyPost_ret (fY rfl _ _ IU 32 #[.int .i64 (wrap64 (Int.tdiv (wrap64 (a0-1)) 65536)),.int .i64 (Int.tmod (wrap64 (a0-1)) 65536)] (0,0) _ rfl pk Tryz.underlying32 rfl (by kernel_rfl)) rfl ?_;exact⟨re,bl⟩
end Go.Proofs.YtmhdcgmfbjcndaaGreatDoor.P
