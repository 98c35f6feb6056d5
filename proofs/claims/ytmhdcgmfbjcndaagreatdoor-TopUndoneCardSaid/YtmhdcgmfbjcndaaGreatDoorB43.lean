import Derived.Test.YtmhdcgmfbjcndaaGreatDoorB35
import Derived.Test.YtmhdcgmfbjcndaaGreatDoorB42
set_option linter.unusedVariables false
set_option linter.unusedSimpArgs false
set_option maxRecDepth 100000
set_option maxHeartbeats 8000000
namespace Go.Proofs.YtmhdcgmfbjcndaaGreatDoor.P
open Go.RowKit Go.Proofs.aa.ag Go.Proofs.aa.ao Go.Proofs.aa.ay
attribute [local go_sem↓] Go.wp_at_zero Go.wp_at_succ
def Tp:List cU:=[zs,zs,zs,zs]
def We:List (List Int):=[[],[],[],[]]
theorem aoF:dC.f 40 2 4 2 60 2=some (2,4,2,60,2,2,Tp,pO,We,0):=by kernel_rfl
theorem st0:xX 40 2 4 2 60 2 2 Tp pO We where
 right:=by kernel_rfl
 pos:=by decide
 len:=by decide
 data:=rfl
 XV:=by kernel_rfl
 Rw:=fun i=>by
  have h:We.getD i []=[]:=by
   match i with
   |0|1|2|3=>rfl
   |i+4=>simp [We]
  rw[h];rfl
 mright:=by kernel_rfl
 Of:=by kernel_rfl
 copy:=by kernel_rfl
theorem aca:dW.f 40 2 4 2 60 2 2 Tp pO We 300=some (true,0,true):=by kernel_rfl
theorem ahL:cq.f 40 Tp 0 false true 0 300=some (mG,((0:Nat):Int),(bg Tp).getD 0 0,0):=by kernel_rfl
theorem ahM:cm.f 40 Tp=some (((0:Nat):Int),true):=by kernel_rfl
theorem ahN:gU.f 40 2 4 2 60 2 2 mG pO rK=some 1:=by kernel_rfl
theorem K9(w:World):Calls Tryz.prog 5 #[] w fun e w'=>e= .returned (.bool true)∧Below w.heap.size w w':=by
 have HB:=ak (Below.refl w.heap.size w);go_enter Tryz.func5,Tryz.ntmps5
 go_wp2_with fail
 refine(mv.calls 2 4 2 60 _ rfl).mono ?_;rintro e w1 ⟨rfl,hb⟩;replace HB:=sb HB hb;clear hb
 go_wp2_with fail
 refine(dC.calls 40 2 4 2 60 2 2 4 2 60 2 2 Tp pO We 0 _ aoF).mono ?_;rintro e w2 ⟨v6,v7,v8,rfl,qJ,qK,hs8,hb⟩;replace HB:=sb HB hb;obtain⟨X6,xc6,rfl⟩:=Kd.bm qJ;obtain⟨X7,xc7,rfl⟩:=Kd.bm qK;obtain⟨X8,xc8,rfl⟩:=Kd.Ll hs8;have H6:=ak (Kd.aW qJ).2;have H7:=ak (Kd.aW qK).2;have H8:=ak (Kd.Pf hs8).2;clear qJ qK hs8 hb;simp only[show Tp.length=4 from rfl,show pO.length=2 from rfl,show We.length=4 from rfl]
 go_wp2_with fail
 obtain⟨W3,FT⟩:∃X,X=w2.alloc (.cells #[.int .i64 2,.int .i64 4,.int .i64 2,.int .i64 60,.int .i64 2,.int .i64 2,.slice X6 4 xc6,.slice X7 2 xc7,.slice X8 4 xc8] 28):=⟨_,rfl⟩;rw[←FT];have hb:Below w2.heap.size w2 W3:=by rw[FT];exact ab (Below.refl _ _) _
 replace HB:=sb HB hb;replace H6:=ak (And.intro H6.1.1 (Kd.aj H6.1.2 hb));replace H7:=ak (And.intro H7.1.1 (Kd.aj H7.1.2 hb));replace H8:=ak (And.intro H8.1.1 (Kd.aj H8.1.2 hb));clear FT hb;refine(aba 40 2 4 2 60 2 2 X6 xc6 Tp X7 xc7 pO X8 xc8 We 300 (by decide) (by decide) 0 true 0 mG W3 W3 (Below.refl _ _) H6.1.2 H6.1.1 H7.1.2 H7.1.1 H8.1.2 H8.1.1 st0 (by decide) (fun i hi=>absurd hi (by omega)) (by decide+kernel) ahM aca ahL).mono ?_;rintro e w4 ⟨x,i,g,err,rfl,hf,hb⟩;obtain⟨rfl,rfl,rfl,Y6,Y7,Y8,yc6,yc7,yc8,rfl,h6c,h7c,h8c,h6,h7,h8⟩:=fO.now hf;have H6:=ak (show Kd.C gW w4 Y6 4 mG from h6);have H7:=ak (show Kd.C gQ w4 Y7 2 pO from h7);have H8:=ak (show Kd.C (Kd.slice 5 (Kd.int .u8)) w4 Y8 4 rK from h8);replace h6c:4≤yc6:=h6c;replace h7c:2≤yc7:=h7c;replace h8c:4≤yc8:=h8c;replace HB:=sb HB hb;clear hf h6 h7 h8 hb;simp only[SVal.v,show mG.length=4 from rfl,show pO.length=2 from rfl,show(We.set 0 (List.replicate (300:Int).toNat 0)).length=4 from rfl,show((0:Nat):Int)=0 from rfl,show(bg Tp).getD 0 0=0 from rfl]
 go_wp2_with fail
 obtain⟨W5,rO⟩:∃X,X=(w4.alloc (.cells #[.int .i64 2,.int .i64 4,.int .i64 2,.int .i64 60,.int .i64 2,.int .i64 2,.slice Y6 4 yc6,.slice Y7 2 yc7,.slice Y8 4 yc8] 28)).alloc (.cells #[.int .i64 0,.int .i64 0,.slice none 0 0] 35):=⟨_,rfl⟩;obtain⟨g3,BF⟩:∃g,g=w4.heap.size:=⟨_,rfl⟩;obtain⟨q0,q1,q2,q3⟩:=mS w4 _ _ W5 rO;rw[←rO,←BF];rw[←BF] at q0 q1;have D3:=ak q0;have D4:=ak q1;replace HB:=sb HB q3;replace H6:=Cb H6 q3;replace H7:=Cb H7 q3;replace H8:=Cb H8 q3;clear rO BF q0 q1 q2 q3;refine(xc Y6 yc6 Y7 yc7 Y8 yc8 _ H6.1 h6c H7.1 h7c H8.1 h8c).mono ?_;rintro e w6 ⟨g9,rfl,hg9,hh9,hb⟩;replace D3:=kb D3 hb;replace D4:=kb D4 hb;replace HB:=sb HB hb;replace H6:=Cb H6 hb;replace H7:=Cb H7 hb;replace H8:=Cb H8 hb;have H9:=ak hh9;clear hb hg9 hh9
 go_wp2_with fail
 refine(OI g9 _ H9.1).mono ?_;rintro e w7 ⟨Z6,Z7,Z8,zc6,zc7,zc8,rfl,z6c,z7c,z8c,z6,z7,z8,hb⟩;replace D3:=kb D3 hb;replace D4:=kb D4 hb;replace HB:=sb HB hb;replace H6:=Cb H6 hb;replace H7:=Cb H7 hb;replace H8:=Cb H8 hb;have K6:=ak (Kd.uu z6);have K7:=ak (Kd.uu z7);have K8:=ak (Kd.uu z8);clear hb z6 z7 z8 H9;obtain⟨W8,Jc⟩:∃X,X=w7.alloc (.cells #[.int .i64 2,.int .i64 4,.int .i64 2,.int .i64 60,.int .i64 2,.int .i64 2,.slice Z6 4 zc6,.slice Z7 2 zc7,.slice Z8 4 zc8] 28):=⟨_,rfl⟩;have HW8:=ak Jc;obtain⟨g8,sP⟩:∃g,g=w7.heap.size:=⟨_,rfl⟩;have HG8:=ak sP;have hb:Below w7.heap.size w7 W8:=by rw[Jc];exact ab (Below.refl _ _) _
 have D8:=ak (show W8.heap[g8]? =some (.cells #[.int .i64 2,.int .i64 4,.int .i64 2,.int .i64 60,.int .i64 2,.int .i64 2,.slice Z6 4 zc6,.slice Z7 2 zc7,.slice Z8 4 zc8] 28 (0,0)) by rw[Jc,sP];exact aI _ _);replace D3:=kb D3 hb;replace D4:=kb D4 hb;replace HB:=sb HB hb;replace H6:=Cb H6 hb;replace H7:=Cb H7 hb;replace H8:=Cb H8 hb;replace K6:=Cb K6 hb;replace K7:=Cb K7 hb;replace K8:=Cb K8 hb;clear Jc sP hb;have s0:=cL D3;have r0:=cL D4;have z0:=cL D8 0;have z1:=cL D8 1;have z2:=cL D8 2;have z3:=cL D8 3;have z4:=cL D8 4;have z5:=cL D8 5;have z6:=cL D8 6;have z7:=cL D8 7;have z8:=cL D8 8
 go_wp2_with((with_reducible refine ma (N:=40) rfl ?_);refine uJ ?_)
 refine⟨?_⟩;rw[←HW8.1,←HG8.1]
 go_wp2_with fail
 refine(Iu 2 4 2 60 2 2 Y6 Z6 yc6 zc6 mG Y7 Z7 yc7 zc7 pO Y8 Z8 yc8 zc8 rK _ H6.1 H7.1 H8.1 K6.1 K7.1 K8.1 (by decide) (by decide) (by decide)).mono ?_;rintro e w9 ⟨rfl,hb⟩;replace D8:=kb D8 hb;replace D3:=kb D3 hb;replace D4:=kb D4 hb;replace HB:=sb HB hb;replace H6:=Cb H6 hb;replace H7:=Cb H7 hb;replace H8:=Cb H8 hb;replace K6:=Cb K6 hb;replace K7:=Cb K7 hb;replace K8:=Cb K8 hb;clear hb s0 r0 z0 z1 z2 z3 z4 z5 z6 z7 z8;have z0:=cL D8 0;have z1:=cL D8 1;have z2:=cL D8 2;have z3:=cL D8 3;have z4:=cL D8 4;have z5:=cL D8 5;have z6:=cL D8 6;have z7:=cL D8 7;have z8:=cL D8 8
 go_wp2_with fail
 refine(gU.calls 40 2 4 2 60 2 2 Z6 zc6 mG Z7 zc7 pO Z8 zc8 rK 1 _ K6.1 z6c K7.1 z7c K8.1 z8c ahN).mono ?_;rintro e rN ⟨rfl,hb⟩;replace D3:=kb D3 hb;replace D4:=kb D4 hb;replace HB:=sb HB hb;replace H6:=Cb H6 hb;replace H7:=Cb H7 hb;replace H8:=Cb H8 hb;clear hb;go_wp2;go_ret;exact⟨rfl,HB.1⟩
end Go.Proofs.YtmhdcgmfbjcndaaGreatDoor.P
namespace Go.Proofs.YtmhdcgmfbjcndaaGreatDoor.P
open Go.RowKit Go.Proofs.aa.ag Go.Proofs.aa.ao Go.Proofs.aa.ay
attribute [local go_sem] bD bw cj bV bj bk bG bH
mutual
def aU.l0:Nat→Int→Int→Int→Int→Int→Int→Int→List cU→List dJ→List (List Int)→Option Bool
 |0,_,_,_,_,_,_,_,_,_,_=>none
 |k+1,x3,nu,nv,nw,ny,nz,nA,mw,kz,kA=>if x3<(kA.length:Int) then aU.j1 k x3 (decide (x3<100)) nu nv nw ny nz nA mw kz kA else aU.j1 k x3 false nu nv nw ny nz nA mw kz kA
def aU.j1:Nat→Int→Bool→Int→Int→Int→Int→Int→Int→List cU→List dJ→List (List Int)→Option Bool
 |0,_,_,_,_,_,_,_,_,_,_,_=>none
 |k+1,x3,x13,nu,nv,nw,ny,nz,nA,mw,kz,kA=>if x13=true then(if 0≤x3 then(if x3<(kA.length:Int) then(if((dn kA x3).length:Int)>4096 then some false else aU.l0 k (wrap64 (x3+1)) nu nv nw ny nz nA mw kz kA) else none) else none) else aU.l1 k 0 nu nv nw ny nz nA mw kz kA
def aU.l1:Nat→Int→Int→Int→Int→Int→Int→Int→List cU→List dJ→List (List Int)→Option Bool
 |0,_,_,_,_,_,_,_,_,_,_=>none
 |k+1,x4,nu,nv,nw,ny,nz,nA,mw,kz,kA=>if x4<(kz.length:Int) then aU.j3 k x4 (decide (x4<100)) nu nv nw ny nz nA mw kz kA else aU.j3 k x4 false nu nv nw ny nz nA mw kz kA
def aU.j3:Nat→Int→Bool→Int→Int→Int→Int→Int→Int→List cU→List dJ→List (List Int)→Option Bool
 |0,_,_,_,_,_,_,_,_,_,_,_=>none
 |k+1,x4,x31,nu,nv,nw,ny,nz,nA,mw,kz,kA=>if x31=true then(if 0≤x4 then(if x4<(kz.length:Int) then(if(((bK kz x4).f0).size:Int)>1024 then some false else aU.l1 k (wrap64 (x4+1)) nu nv nw ny nz nA mw kz kA) else none) else none) else(if(mw.length:Int)≤60 then(if(kz.length:Int)≤60 then(some (decide ((kA.length:Int)≤60))) else some false) else some false)
end
def aU.f(k:Nat)(az ax aA aC aV aX:Int)(aw:List cU)(aD:List dJ)(aG:List (List Int)):Option Bool:=aU.l0 k 0 az ax aA aC aV aX aw aD aG
theorem aU.calls(k:Nat)(az ax aA aC aV aX:Int)(cN:Option Addr)(cF:Nat)(aw:List cU)(cy:Option Addr)(cA:Nat)(aD:List dJ)(cC:Option Addr)(cB:Nat)(aG:List (List Int))(r:Bool)(w:World)(dZ:Kd.C gW w cN aw.length aw)(ef:aw.length≤cF)(eb:Kd.C gQ w cy aD.length aD)(en:aD.length≤cA)(dL:Kd.C (Kd.slice 5 (Kd.int .u8)) w cC aG.length aG)(ew:aG.length≤cB)(h:aU.f k az ax aA aC aV aX aw aD aG=some r):
 Calls Tryz.prog 6 #[.agg #[.int .i64 az,.int .i64 ax,.int .i64 aA,.int .i64 aC,.int .i64 aV,.int .i64 aX,.slice cN aw.length cF,.slice cy aD.length cA,.slice cC aG.length cB]] w fun e w'=>e= .returned (.bool r)∧Below w.heap.size w w':=by
 have Ba:=Tryz.underlying28;have fD:=ak dZ;have i':=ak ef;clear dZ ef;have iw:=ak eb;have ji:=ak en;clear eb en;have ix:=ak dL;have jS:=ak ew;clear dL ew;have HB:=ak (Below.refl w.heap.size w);have H:=ak h;clear h;unfold aU.f at H;go_enter Tryz.func6,Tryz.ntmps6
 go_wp2_with((with_reducible refine gd 1 ?_);(try (refine dy (by rfl) ?_;dsimp only));refine bx 28 #[.int .i64 az,.int .i64 ax,.int .i64 aA,.int .i64 aC,.int .i64 aV,.int .i64 aX,.slice cN aw.length cF,.slice cy aD.length cA,.slice cC aG.length cB] ?_;intro MT hg w2 eh hb;have kM:=ak (eh);have asn:=qg hg;replace HB:=qb hb;clear hb eh hg)
 go_loopg [3] k (fun kq v3 w'=>∃(jg:Int),v3= .int .i64 jg∧ae (aU.l0 kq jg az ax aA aC aV aX aw aD aG=some r)∧ae (kq≤k)∧ae (w'.heap[MT]? =some (.cells #[.int .i64 az,.int .i64 ax,.int .i64 aA,.int .i64 aC,.int .i64 aV,.int .i64 aX,(.slice cN aw.length cF),(.slice cy aD.length cA),(.slice cC aG.length cB)] 28 (0,0)))∧ae (Below w.heap.size w w'))
 case atStart=>exact⟨0,rs,H,⟨Nat.le_refl _⟩,⟨bu kM⟩,⟨bl⟩⟩
 case round=>
  clear H;obtain⟨jg,rfl,H,iB,kM,HB⟩:=hrel;cases gk with
  |zero=>exact absurd H.1 (by simp [aU.l0])
  |succ k1=>
   simp only[aU.l0] at H
   go_upto_region 2 with(fail)
   go_cut [13] (fun It wc=>∃(kq:Nat)(SD:Bool),It= .bool SD∧ae (aU.j1 kq jg SD az ax aA aC aV aX aw aD aG=some r)∧ae (kq≤k1)∧ae (wc.heap[MT]? =some (.cells #[.int .i64 az,.int .i64 ax,.int .i64 aA,.int .i64 aC,.int .i64 aV,.int .i64 aX,(.slice cN aw.length cF),(.slice cy aD.length cA),(.slice cC aG.length cB)] 28 (0,0)))∧ae (Below w.heap.size w wc))
   case first=>
    replace H:=ic H;rcases H with⟨jP,H⟩|⟨jP,H⟩
    ·(first|rw[jP]|(simp only[bp,bF];rw[jP])|skip);obtain⟨Ea,Eb⟩:=cf kM;go_wp2;go_meet
     case rel=>exact⟨_,(decide (jg<100)),rs,H,⟨by have:=iB.1;first|omega|exact Nat.le_refl _⟩,⟨bu kM⟩,⟨bl⟩⟩
    ·(first|rw[jP]|(simp only[bp,bF];rw[jP])|skip);obtain⟨JO,JP⟩:=cf kM;go_wp2;go_meet
     case rel=>exact⟨_,false,rs,H,⟨by have:=iB.1;first|omega|exact Nat.le_refl _⟩,⟨bu kM⟩,⟨bl⟩⟩
   case rest=>
    clear H;obtain⟨kq,SD,rfl,H,SW,kM,HB⟩:=hcut;cases kq with
    |zero=>exact absurd H.1 (by simp [aU.j1])
    |succ Xf=>
     simp only[aU.j1] at H;replace H:=ib H;rcases H with⟨rfl,H⟩|⟨rfl,H⟩
     ·replace H:=iO H;obtain⟨rb,H⟩:=H;replace H:=iO H;obtain⟨AB,H⟩:=H;replace H:=iC H;rcases H with⟨SY,H⟩|⟨SY,H⟩
      ·have yx:=decide_eq_true SY;have ahR:decide (4096<(dn aG jg).length)=true:=decide_eq_true (by omega);clear SY;obtain rfl:=s1 H;obtain⟨km,ko⟩:=cf kM;obtain⟨ahS,ace,acf,acg,xj,xk,xl⟩:=oY ix.1 jg dt dt;cases acg;replace xj:=hy xj;have Wg:=ak xl;have Wh:=ak xk;clear xl xk;have aoK:=tp (0≤(jg:Int));have aoL:=tp (jg<(aG.length:Int));go_wp2;go_ret;exact⟨re,bl⟩
      ·have yx:=decide_eq_false SY;have ahR:decide (4096<(dn aG jg).length)=false:=decide_eq_false (by omega);clear SY;obtain⟨zC,zD⟩:=cf kM;obtain⟨ahS,ace,acf,acg,xj,xk,xl⟩:=oY ix.1 jg dt dt;cases acg;replace xj:=hy xj;have Wg:=ak xl;have Wh:=ak xk;clear xl xk;have aoK:=tp (0≤(jg:Int));have aoL:=tp (jg<(aG.length:Int));go_wp2;go_roundg Xf
       case measure=>have:=iB.1;have:=SW.1;omega
       case rel=>exact⟨(wrap64 (jg+1)),rs,H,⟨by have:=iB.1;have:=SW.1;omega⟩,⟨bu kM⟩,⟨bl⟩⟩
     ·go_wp2
      go_loopg [4] Xf (fun kq v4 w'=>∃(xm:Int),v4= .int .i64 xm∧ae (aU.l1 kq xm az ax aA aC aV aX aw aD aG=some r)∧ae (kq≤Xf)∧ae (w'.heap[MT]? =some (.cells #[.int .i64 az,.int .i64 ax,.int .i64 aA,.int .i64 aC,.int .i64 aV,.int .i64 aX,(.slice cN aw.length cF),(.slice cy aD.length cA),(.slice cC aG.length cB)] 28 (0,0)))∧ae (Below w.heap.size w w'))
      case atStart=>exact⟨0,rs,H,⟨Nat.le_refl _⟩,⟨bu kM⟩,⟨bl⟩⟩
      case round=>
       clear H;obtain⟨xm,rfl,H,HK3,kM,HB⟩:=hrel;cases gk with
       |zero=>exact absurd H.1 (by simp [aU.l1])
       |succ k3=>
        simp only[aU.l1] at H
        go_upto_region 7 with(fail)
        go_cut [31] (fun v31 wc=>∃(kq:Nat)(La:Bool),v31= .bool La∧ae (aU.j3 kq xm La az ax aA aC aV aX aw aD aG=some r)∧ae (kq≤k3)∧ae (wc.heap[MT]? =some (.cells #[.int .i64 az,.int .i64 ax,.int .i64 aA,.int .i64 aC,.int .i64 aV,.int .i64 aX,(.slice cN aw.length cF),(.slice cy aD.length cA),(.slice cC aG.length cB)] 28 (0,0)))∧ae (Below w.heap.size w wc))
        case first=>
         replace H:=ic H;rcases H with⟨uz,H⟩|⟨uz,H⟩
         ·(first|rw[uz]|(simp only[bp,bF];rw[uz])|skip);obtain⟨ni,nj⟩:=cf kM;go_wp2;go_meet
          case rel=>exact⟨_,(decide (xm<100)),rs,H,⟨by have:=iB.1;have:=SW.1;have:=HK3.1;first|omega|exact Nat.le_refl _⟩,⟨bu kM⟩,⟨bl⟩⟩
         ·(first|rw[uz]|(simp only[bp,bF];rw[uz])|skip);obtain⟨ot,ou⟩:=cf kM;go_wp2;go_meet
          case rel=>exact⟨_,false,rs,H,⟨by have:=iB.1;have:=SW.1;have:=HK3.1;first|omega|exact Nat.le_refl _⟩,⟨bu kM⟩,⟨bl⟩⟩
        case rest=>
         clear H;obtain⟨kq,La,rfl,H,ahT,kM,HB⟩:=hcut;cases kq with
         |zero=>exact absurd H.1 (by simp [aU.j3])
         |succ aoM=>
          simp only[aU.j3] at H;replace H:=ib H;rcases H with⟨rfl,H⟩|⟨rfl,H⟩
          ·replace H:=iO H;obtain⟨wk,H⟩:=H;replace H:=iO H;obtain⟨tr,H⟩:=H;replace H:=iC H;rcases H with⟨yB,H⟩|⟨yB,H⟩
           ·have rv:=decide_eq_true yB;have GV:decide (1024<((bK aD xm).f0).size)=true:=decide_eq_true (by omega);clear yB;obtain rfl:=s1 H;obtain⟨vS,vT⟩:=cf kM;obtain⟨ahU,ach,Wi,Wj,Wk⟩:=nW (cw iw) xm dt dt;cases ach;have aoN:=tp (0≤(xm:Int));have aoO:=tp (xm<(aD.length:Int));go_wp2;go_ret;exact⟨re,bl⟩
           ·have rv:=decide_eq_false yB;have GV:decide (1024<((bK aD xm).f0).size)=false:=decide_eq_false (by omega);clear yB;obtain⟨tV,tW⟩:=cf kM;obtain⟨ahU,ach,Wi,Wj,Wk⟩:=nW (cw iw) xm dt dt;cases ach;have aoN:=tp (0≤(xm:Int));have aoO:=tp (xm<(aD.length:Int));go_wp2;go_roundg aoM
            case measure=>have:=iB.1;have:=SW.1;have:=HK3.1;have:=ahT.1;omega
            case rel=>exact⟨(wrap64 (xm+1)),rs,H,⟨by have:=iB.1;have:=SW.1;have:=HK3.1;have:=ahT.1;omega⟩,⟨bu kM⟩,⟨bl⟩⟩
          ·replace H:=iC H;rcases H with⟨G5,H⟩|⟨G5,H⟩
           ·have Bb:=decide_eq_true G5;have Md:decide (aw.length≤60)=true:=decide_eq_true (by omega);clear G5;replace H:=iC H;rcases H with⟨Wa,H⟩|⟨Wa,H⟩
            ·have YR:=decide_eq_true Wa;have YS:decide (aD.length≤60)=true:=decide_eq_true (by omega);clear Wa;obtain rfl:=s1 H;obtain⟨vU,vV⟩:=cf kM;go_wp2;go_ret;exact⟨re,bl⟩
            ·have YR:=decide_eq_false Wa;have YS:decide (aD.length≤60)=false:=decide_eq_false (by omega);clear Wa;obtain rfl:=s1 H;obtain⟨zy,zz⟩:=cf kM;go_wp2;go_ret;exact⟨re,bl⟩
           ·have Bb:=decide_eq_false G5;have Md:decide (aw.length≤60)=false:=decide_eq_false (by omega);clear G5;obtain rfl:=s1 H;obtain⟨Ma,Mb⟩:=cf kM;go_wp2;go_ret;exact⟨re,bl⟩
end Go.Proofs.YtmhdcgmfbjcndaaGreatDoor.P
namespace Go.Proofs.YtmhdcgmfbjcndaaGreatDoor.P
open Go.RowKit Go.Proofs.aa.ag Go.Proofs.aa.ao Go.Proofs.aa.ay
attribute [local go_sem↓] Go.wp_at_zero Go.wp_at_succ
structure SE (k:Nat) (a0 a1 a2 a3 a4 a5:Int) (l6:List cU) (l7:List dJ) (l8:List (List Int)) (n:Int) (t:Nat) (ls:List cU):Prop where
 st:xX k a0 a1 a2 a3 a4 a5 ls l7 (l8.set t (List.replicate n.toNat 0))
 len:ls.length=l6.length
 gen:0≤(bg ls).getD t 0∧(bg ls).getD t 0<65535
 same:(bg ls).getD t 0=(bg l6).getD t 0
 aoP:iY.f (bg ls) (bT ls (l8.set t (List.replicate n.toNat 0))) l7 (t:Int) ((bg ls).getD t 0)=some true
 live:jM.f k a0 a1 a2 a3 a4 a5 ls l7 (l8.set t (List.replicate n.toNat 0)) (t:Int)=some true
 ahV:jE.f k ls (t:Int)=some (l6.set t {aM l6 (t:Int) with f0:=(bg l6).getD t 0+1},0)
 data:(l8.set t (List.replicate n.toNat 0)).set t []=l8
theorem Lb{W:World}{g t:Nat}{cur:Array Value}{l:List cU}(hh:W.heap[g]? =some (.cells cur 43 (0,0)))(h:Kd.C gW W (some ⟨g,0,none⟩) l.length l)(ht:t<l.length)(v:Int):
 Kd.C gW (W.setCell ⟨g,t*5,none⟩ (.int .i64 v)) (some ⟨g,0,none⟩) (l.set t {aM l (t:Int) with f0:=v}).length (l.set t {aM l (t:Int) with f0:=v}):=by
 obtain⟨h1,h2,h3⟩:=h;obtain⟨ad,e,hj⟩:=h3 (by omega);obtain rfl:=Option.some.inj e;have hp:=kf hh (t*5) (.int .i64 v)
 have hx:l[t]? =some (aM l (t:Int)):=by
  rw[List.getElem?_eq_getElem ht];simp [aM,List.getD_eq_getElem?_getD,List.getElem?_eq_getElem ht]
 refine⟨rfl,by rw[List.length_set];exact h2,fun _=>⟨_,rfl,fun j p hpj=>?_⟩⟩
 by_cases hjt:j=t
 ·subst hjt;rw[List.getElem?_set_self ht] at hpj;obtain rfl:=Option.some.inj hpj;obtain⟨cs,hl,hK,hc⟩:=hj j _ hx;obtain rfl:=vE hK;refine⟨[.int .i64 v,.bool (aM l (j:Int)).f1,.bool (aM l (j:Int)).f2,.int .i64 (aM l (j:Int)).f3,.int .i64 (aM l (j:Int)).f4],rfl,Po _ {aM l (j:Int) with f0:=v},fun i u hu=>?_⟩;have h0:=hc 0 _ rfl;rw[add_plain,ah hh] at h0;have cX:j*5<cur.size:=(Array.getElem?_eq_some_iff.1 h0).1;rw[add_plain,ah hp];show(cur.setIfInBounds (j*5) (.int .i64 v))[j*5+i]? =some u;cases i with
  |zero=>
   simp only[List.getElem?_cons_zero,Option.some.injEq] at hu;subst hu;rw[Nat.add_zero,Array.getElem?_setIfInBounds_self_of_lt cX]
  |succ i=>
   rw[Array.getElem?_setIfInBounds_ne (by omega)];have:=hc (i+1) u (by simpa using hu);rw[add_plain,ah hh] at this;exact this
 ·rw[List.getElem?_set_ne (fun e=>hjt e.symm)] at hpj;obtain⟨cs,hl,hK,hc⟩:=hj j p hpj;refine⟨cs,hl,?_,fun i u hu=>?_⟩
  ·obtain rfl:=vE hK;exact Po _ p
  ·rw[add_plain,ah hp]
   have hi:i<5:=by
    have h5:=(List.getElem?_eq_some_iff.1 hu).1;rw[hl] at h5;exact h5
   show(cur.setIfInBounds (t*5) (.int .i64 v))[j*5+i]? =some u;rw[Array.getElem?_setIfInBounds_ne (by omega)];have:=hc i u hu;rw[add_plain,ah hh] at this;exact this
theorem FL(k:Nat)(a0 a1 a2 a3 a4 a5:Int)(A6:Option Addr)(c6:Nat)(l6:List cU)(A7:Option Addr)(c7:Nat)(l7:List dJ)(A8:Option Addr)(c8:Nat)(l8:List (List Int))(n:Int)(fw rt:Bool)(w:World)(qJ:Kd.C gW w A6 l6.length l6)(om:l6.length≤c6)(qK:Kd.C gQ w A7 l7.length l7)(lY:l7.length≤c7)(sE:Kd.C (Kd.slice 5 (Kd.int .u8)) w A8 l8.length l8)(nT:l8.length≤c8)
 (SF:aU.f k a0 a1 a2 a3 a4 a5 l6 l7 l8=some fw) (lp:fw=true→aT.f k a0 a1 a2 a3 a4 a5 l6 l7 l8=some rt)
 (Ca:fw=true→rt=true→xX k a0 a1 a2 a3 a4 a5 l6 l7 l8∧xY k a0 a1 a2 a3 a4 a5 l6 l7 l8 n∧l7.length≤2048∧(∀i:Nat,i<l8.length→(l8.getD i []).length≤65536))
 (FV:fw=true→rt=true→∀(t:Nat)(two:Bool)(at_:Int)(ls:List cU),t<l6.length→1≤n→n≤2048→cm.f k l6=some ((t:Int),true)→dW.f k a0 a1 a2 a3 a4 a5 l6 l7 l8 n=some (two,at_,true)→cq.f k l6 0 false two at_ n=some (ls,(t:Int),(bg l6).getD t 0,0)→SE k a0 a1 a2 a3 a4 a5 l6 l7 l8 n t ls):
 Calls Tryz.prog 3 #[.agg #[.int .i64 a0,.int .i64 a1,.int .i64 a2,.int .i64 a3,.int .i64 a4,.int .i64 a5,.slice A6 l6.length c6,.slice A7 l7.length c7,.slice A8 l8.length c8],.int .i64 n] w fun e w'=>e= .returned (.bool true)∧Below w.heap.size w w':=by
 obtain⟨W1,fI⟩:∃X,X=w.alloc (.cells #[.int .i64 a0,.int .i64 a1,.int .i64 a2,.int .i64 a3,.int .i64 a4,.int .i64 a5,.slice A6 l6.length c6,.slice A7 l7.length c7,.slice A8 l8.length c8] 28):=⟨_,rfl⟩;have xo:=ak fI;have HB:=ak (show Below w.heap.size w W1 by rw[fI];exact ab (Below.refl _ _) _);have D2:=ak (show W1.heap[w.heap.size]? =some (.cells #[.int .i64 a0,.int .i64 a1,.int .i64 a2,.int .i64 a3,.int .i64 a4,.int .i64 a5,.slice A6 l6.length c6,.slice A7 l7.length c7,.slice A8 l8.length c8] 28 (0,0)) by rw[fI];exact aI w _);have H6:=ak qJ;have H7:=ak qK;have H8:=ak sE;have ahW:=ak SF;have OW:=ak lp;have HST:=ak Ca;have HUN:=ak FV;clear fI qJ qK sE SF lp Ca FV;go_enter Tryz.func3,Tryz.ntmps3
 go_wp2_with fail
 rw[←xo.1];refine(K9 _).mono ?_;rintro e w2 ⟨rfl,hb⟩;replace D2:=kb D2 hb;replace HB:=sb HB hb;clear hb;have s0:=cL D2
 go_wp2_with fail
 refine(aU.calls k a0 a1 a2 a3 a4 a5 A6 c6 l6 A7 c7 l7 A8 c8 l8 fw _ (Kd.aj H6.1 HB.1) om (Kd.aj H7.1 HB.1) lY (Kd.aj H8.1 HB.1) nT ahW.1).mono ?_;rintro e w3 ⟨rfl,hb⟩;replace D2:=kb D2 hb;replace HB:=sb HB hb;clear hb s0;have s0:=cL D2;cases fw with
 |false=>
  go_wp2;go_ret;exact⟨rfl,HB.1⟩
 |true=>
  go_wp2_with fail
  refine(aT.calls k a0 a1 a2 a3 a4 a5 A6 c6 l6 A7 c7 l7 A8 c8 l8 rt _ (Kd.aj H6.1 HB.1) om (Kd.aj H7.1 HB.1) lY (Kd.aj H8.1 HB.1) nT (OW.1 (by trivial))).mono ?_;rintro e w4 ⟨rfl,hb⟩;replace D2:=kb D2 hb;replace HB:=sb HB hb;clear hb s0;have s0:=cL D2;cases rt with
  |false=>
   go_wp2;go_ret;exact⟨rfl,HB.1⟩
  |true=>
   obtain⟨S,C,BV,xq⟩:=HST.1 (by trivial) (by trivial);have HS:=ak S;have acb:=ak xq;have HL7:=ak BV;have HC:=ak C;clear S C BV xq HST OW ahW
   go_wp2_with fail
   refine(Ry k a0 a1 a2 a3 a4 a5 A6 c6 l6 A7 c7 l7 A8 c8 l8 n w4 w4 (Below.refl _ _) (Kd.aj H6.1 HB.1) om (Kd.aj H7.1 HB.1) lY (Kd.aj H8.1 HB.1) nT HS.1 HC.1).mono ?_;rintro e w5 ⟨x,ri,rg,err,rfl,hf,hb⟩;replace D2:=kb D2 hb;replace HB:=sb HB hb;have HF:=ak (fO.now hf);clear hf hb s0;rcases HF.1 with he|⟨t,two,at_,ls,he,hi,hg,ht,kN,mD,hN,hP,hT,hx⟩
   ·have he1:=eq_false he;have he2:(err==0)=false:=by simpa using he
    have he3:(err !=0)=true:=by simpa using he
    have he4:decide (err=0)=false:=by simpa using he
    clear HF he;simp only[SVal.v];go_wp2;go_ret;exact⟨rfl,ab (ab HB.1 _) _⟩
   ·clear HF;obtain⟨X6,X7,X8,x6,x7,x8,hxx,xc6,xc7,xc8,hx6,hx7,OX⟩:=hx;have U:=ak (HUN.1 (by trivial) (by trivial) t two at_ ls ht kN mD hN hP hT);clear hN hP hT HUN HC;obtain⟨lx,hlx⟩:∃lx,lx=l8.set t (List.replicate n.toNat 0):=⟨_,rfl⟩;have Vm:lx.length=l8.length:=by rw[hlx,List.length_set]
    rw[←hlx] at OX xc8 hxx;have HLX:=ak hlx;subst he hi hxx;have HG:=ak hg;have HX6:=ak hx6;have HX7:=ak hx7;have HX8:=ak OX;have HT:=ak ht;clear hlx hx6 hx7 OX ht hg;simp only[SVal.v]
    go_wp2_with fail
    obtain⟨W6,tE⟩:∃X,X=(w5.alloc (.cells #[.int .i64 a0,.int .i64 a1,.int .i64 a2,.int .i64 a3,.int .i64 a4,.int .i64 a5,.slice X6 ls.length x6,.slice X7 l7.length x7,.slice X8 l8.length x8] 28)).alloc (.cells #[.int .i64 t,.int .i64 rg,.slice none 0 0] 35):=⟨_,rfl⟩;obtain⟨g7,pB⟩:∃g,g=w5.heap.size:=⟨_,rfl⟩;obtain⟨q0,q1,q2,q3⟩:=mS w5 _ _ W6 tE;rw[←tE,←pB];rw[←pB] at q0 q1;have D7:=ak q0;have D8:=ak q1;replace D2:=kb D2 q3;replace HB:=sb HB q3;replace HX6:=Cb HX6 q3;replace HX7:=Cb HX7 q3;replace HX8:=Cb HX8 q3;clear tE pB q0 q1 q2 q3;obtain⟨lf,hlf⟩:∃lf,lf=l6.set t {aM l6 (t:Int) with f0:=(bg l6).getD t 0+1}:=⟨_,rfl⟩;have hd:=Vu k a0 a1 a2 a3 a4 a5 X6 x6 ls X7 x7 l7 X8 x8 lx t lf 0 W6 W6 (Below.refl _ _) HX6.1 xc6 HX7.1 xc7 HX8.1 xc8 (by rw[HLX.1];exact U.1.st) (by rw[U.1.len];exact HT.1) U.1.gen (by rw[HLX.1];exact U.1.aoP) (by rw[HLX.1];exact U.1.live) (by rw[hlf];exact U.1.ahV);rw[U.1.same,←HG.1,Vm] at hd;refine hd.mono ?_;clear hd;rintro e w7 ⟨y,ri2,rg2,aw6,rfl,hf,hb⟩;obtain⟨rfl,Y6,Y7,Y8,y6,y7,y8,rfl,yc6,yc7,yc8,hy6,hy7,hy8⟩:=fO.now hf;have ahX:(lx.set t []).length=l8.length:=by rw[List.length_set,Vm]
    have ahY:lf.length=l6.length:=by rw[hlf,List.length_set]
    rw[show lx.set t []=l8 by rw[HLX.1];exact U.1.data] at hy8 yc8;have HY6:=ak hy6;have HY7:=ak hy7;have HY8:=ak hy8;have HLF:=ak hlf;replace D2:=kb D2 hb;replace D8:=kb D8 hb;replace HB:=sb HB hb;clear hf hb hy6 hy7 hy8 hlf D7 HX6 HX7 HX8;simp only[SVal.v,ahX,ahY];clear ahX;obtain⟨W8,Jc⟩:∃X,X=(w7.alloc (.cells #[.int .i64 a0,.int .i64 a1,.int .i64 a2,.int .i64 a3,.int .i64 a4,.int .i64 a5,.slice Y6 l6.length y6,.slice Y7 l7.length y7,.slice Y8 l8.length y8] 28)).alloc (.cells #[.int .i64 ri2,.int .i64 rg2,.slice none 0 0] 35):=⟨_,rfl⟩;obtain⟨g10,aci⟩:∃g,g=w7.heap.size:=⟨_,rfl⟩;obtain⟨q0,q1,q2,q3⟩:=mS w7 _ _ W8 Jc;have HW8:=ak Jc;have aoU:=ak aci;rw[←aci] at q0;have D10:=ak q0;replace D2:=kb D2 q3;replace D8:=kb D8 q3;replace HB:=sb HB q3;replace HY6:=Cb HY6 q3;replace HY7:=Cb HY7 q3;replace HY8:=Cb HY8 q3;clear Jc aci q0 q1 q2 q3;have r0:=cL D8;have s0:=cL D2;have yy0:=cL D10;have ht:=HT.1;have t1:=eq_false (show¬(t:Int)<0 by omega);have t2:decide ((t:Int)<0)=false:=decide_eq_false (by omega);have t3:=eq_false (show¬(l6.length:Int)≤(t:Int) by omega);have t4:decide ((l6.length:Int)≤(t:Int))=false:=decide_eq_false (by omega);have t5:=eq_true (show(0:Int)≤(t:Int) by omega);have t6:=eq_true (show(t:Int)<(l6.length:Int) by omega);have t7:=eq_false (show¬l6.length≤t by omega);have t8:=eq_true ht;have t9:=decide_eq_true ht;have t10:decide (l6.length≤t)=false:=decide_eq_false (by omega);clear ht
    go_wp2_with((with_reducible refine gd 53 ?_);rw[←HW8.1,←aoU.1])
    refine(I8 a0 a1 a2 a3 a4 a5 A6 c6 l6 A7 c7 l7 A8 c8 l8 W8 (Kd.aj H6.1 HB.1) (Kd.aj H7.1 HB.1) (Kd.aj H8.1 HB.1) HS.1.len HL7.1 (by rw[HS.1.data];exact HS.1.len) acb.1).mono ?_;rintro e w9 ⟨v6,v7,v8,rfl,qJ,qK,sE,hb⟩;have tz:=ak (aq HB.1);obtain⟨inner,ho⟩:=Kd.vu qJ;obtain⟨g6,w6,cur,rfl,O0,hh6,lZ,yR⟩:=jn ho HS.1.pos;obtain⟨Z7,w7',rfl⟩:=Kd.bm qK;obtain⟨Z8,w8',rfl⟩:=Kd.bm sE;have HG6:=ak O0;clear ho O0 lZ yR;have HZ6:=ak qJ;have HZ7:=ak qK;have HZ8:=ak sE;have HH:=ak hh6;replace D8:=kb D8 hb;replace D10:=kb D10 hb;replace HB:=sb HB hb;have HB8:=ak hb;clear hb qJ qK sE hh6 r0 D2 s0 yy0;obtain⟨W10,Wl⟩:∃X,X=w9.alloc (.cells #[.int .i64 a0,.int .i64 a1,.int .i64 a2,.int .i64 a3,.int .i64 a4,.int .i64 a5,.slice (some ⟨g6,0,none⟩) l6.length w6,.slice Z7 l7.length w7',.slice Z8 l8.length w8'] 28):=⟨_,rfl⟩;obtain⟨g13,ack⟩:∃g,g=w9.heap.size:=⟨_,rfl⟩;have aoY:=ak Wl;have aoZ:=ak ack;have hb:Below w9.heap.size w9 W10:=by rw[Wl];exact ab (Below.refl _ _) _
    have od:=ak (show W10.heap[g13]? =some (.cells #[.int .i64 a0,.int .i64 a1,.int .i64 a2,.int .i64 a3,.int .i64 a4,.int .i64 a5,.slice (some ⟨g6,0,none⟩) l6.length w6,.slice Z7 l7.length w7',.slice Z8 l8.length w8'] 28 (0,0)) by rw[Wl,ack];exact aI _ _);replace HZ6:=Rb HZ6 hb;replace HZ7:=Rb HZ7 hb;replace HZ8:=Rb HZ8 hb;replace HH:=kb HH hb;replace D8:=kb D8 hb;replace D10:=kb D10 hb;replace HB:=sb HB hb;replace HB8:=sb HB8 hb;clear Wl ack hb;have r0:=cL D8;have u6:=cL od;have Fb:=U.1.gen;rw[U.1.same,←HG.1] at Fb;have hw1:IntKind.i64.wrap (rg+1)=rg+1:=IntWalk.i64_in _ (by omega);have TU:wrap64 (rg+1)=rg+1:=by unfold Go.RowKit.wrap64;omega
    have oe:∃u,W10.cell? ⟨g6,t*5,none⟩=some u:=by
     obtain⟨ad,e,oe,_⟩:=gq (Kd.aW HZ6.1).2.2 (t:Int) (by omega) (ow HT);obtain rfl:=Option.some.inj e;rw[add_plain,Int.toNat_natCast] at oe;exact⟨_,oe⟩
    obtain⟨u0,hu0⟩:=oe;have hf0:=bn HH.1 (t*5);obtain⟨YU,FM⟩:∃X,X=W10.setCell ⟨g6,t*5,none⟩ (.int .i64 (rg+1)):=⟨_,rfl⟩;have ao0:=ak FM;have E10:=ak (show YU.heap[g10]? =some (.cells #[.int .i64 a0,.int .i64 a1,.int .i64 a2,.int .i64 a3,.int .i64 a4,.int .i64 a5,.slice Y6 l6.length y6,.slice Y7 l7.length y7,.slice Y8 l8.length y8] 28 (0,0)) by rw[FM];exact aJ D10.1 (p:=⟨g6,t*5,none⟩) (dQ D10.1 HH.1 (by decide)) _);have E13:=ak (show YU.heap[g13]? =some (.cells #[.int .i64 a0,.int .i64 a1,.int .i64 a2,.int .i64 a3,.int .i64 a4,.int .i64 a5,.slice (some ⟨g6,0,none⟩) l6.length w6,.slice Z7 l7.length w7',.slice Z8 l8.length w8'] 28 (0,0)) by rw[FM];exact aJ od.1 (p:=⟨g6,t*5,none⟩) (dQ od.1 HH.1 (by decide)) _);have EB:=ak (show Below W8.heap.size W8 YU by rw[FM];exact aH HB8.1 HG6.1);have EW:=ak (show Below w.heap.size w YU by rw[FM];exact aH HB.1 (Nat.le_trans tz.1 HG6.1));have E7:=ak (show Kd.R gQ 58 YU _ _ _ l7 by rw[FM];exact Kd.jq HZ7.1 HH.1 (by decide) (t*5) _);have E8:=ak (show Kd.R (Kd.slice 5 (Kd.int .u8)) 33 YU _ _ _ l8 by rw[FM];exact Kd.jq HZ8.1 HH.1 (by decide) (t*5) _)
    have E6:=ak (show Kd.C gW YU (some ⟨g6,0,none⟩) lf.length lf by
     rw[FM,HLF.1,HG.1];exact Lb HH.1 (Kd.aW HZ6.1).2.2 HT.1 _)
    clear FM;have yy0:=cL E10;have zz0:=cL E13
    go_wp2_with(first|((with_reducible refine gd 77 ?_);rw[←aoY.1,←aoZ.1])|((with_reducible refine gd 87 ?_);rw[←ao0.1]))
    have hs:=Iu a0 a1 a2 a3 a4 a5 Y6 (some ⟨g6,0,none⟩) y6 w6 lf Y7 Z7 y7 w7' l7 Y8 Z8 y8 w8' l8 YU (Kd.aj HY6.1 EB.1) (Kd.aj HY7.1 EB.1) (Kd.aj HY8.1 EB.1) E6.1 (Kd.aW E7.1).2.2 (Kd.aW E8.1).2.2 (by have:=HS.1.len;omega) (ow HL7) (by have:=HS.1.len;have:=HS.1.data;omega);rw[ahY] at hs;refine hs.mono ?_;rintro e SQ ⟨rfl,hb⟩;replace EW:=sb EW hb;clear hb hs;go_wp2;go_ret;exact⟨rfl,EW.1⟩
end Go.Proofs.YtmhdcgmfbjcndaaGreatDoor.P
