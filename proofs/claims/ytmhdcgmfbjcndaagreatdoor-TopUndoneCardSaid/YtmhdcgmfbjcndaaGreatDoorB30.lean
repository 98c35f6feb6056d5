import Derived.Test.YtmhdcgmfbjcndaaGreatDoorB14
import Derived.Test.YtmhdcgmfbjcndaaGreatDoorB29
set_option linter.unusedVariables false
set_option linter.unusedSimpArgs false
set_option maxRecDepth 100000
set_option maxHeartbeats 8000000
namespace Go.Proofs.YtmhdcgmfbjcndaaGreatDoor.P
open Go.RowKit Go.Proofs.aa.ag Go.Proofs.aa.ao Go.Proofs.aa.ay
attribute [local go_sem] bD bw cj bV bj bk bG bH
mutual
def ch.j0:Nat→Bool→List Int→List (List Int)→List dJ→Option Bool
 |0,_,_,_,_=>none
 |k+1,Xu,wJ,wK,zO=>if Xu=true then some false else(ch.l0 k wJ (wJ.length:Int) 0 wJ wK zO)
def ch.l0:Nat→List Int→Int→Int→List Int→List (List Int)→List dJ→Option Bool
 |0,_,_,_,_,_,_=>none
 |k+1,x28,x29,XO,wJ,wK,zO=>if XO<x29 then(if 0≤XO then(if XO<(x28.length:Int) then(if(rd x28 XO)<0 then some false else(if(rd x28 XO)>65535 then some false else(if XO<(wK.length:Int) then(if((dn wK XO).length:Int)>2048 then some false else ch.l0 k x28 x29 (wrap64 (XO+1)) wJ wK zO) else none))) else none) else none) else(bb.f k zO).bind fun t267=>(some t267)
end
def ch.f(k:Nat)(fp:List Int)(fP:List (List Int))(iW:List dJ):Option Bool:=if(fp.length:Int)=(fP.length:Int) then(if(fp.length:Int)<2 then ch.j0 k true fp fP iW else(if(fp.length:Int)>32 then ch.j0 k true fp fP iW else(ch.j0 k (((fp.length:Int)%2) !=0) fp fP iW))) else ch.j0 k true fp fP iW
theorem ch.calls(k:Nat)(rE:Option Addr)(rF:Nat)(fp:List Int)(qG:Option Addr)(qH:Nat)(fP:List (List Int))(pw:Option Addr)(pz:Nat)(iW:List dJ)(r:Bool)(w:World)(yD:Kd.C (Kd.int .i64) w rE fp.length fp)(yE:fp.length≤rF)(yF:Kd.C (Kd.slice 5 (Kd.int .u8)) w qG fP.length fP)(yG:fP.length≤qH)(yH:Kd.C gQ w pw iW.length iW)(yI:iW.length≤pz)(h:ch.f k fp fP iW=some r):
 Calls Tryz.prog 88 #[.agg #[.slice rE fp.length rF,.slice qG fP.length qH,.slice pw iW.length pz]] w fun e w'=>e= .returned (.bool r)∧Below w.heap.size w w':=by
 have XN:=Tryz.underlying118;have yJ:=ak yD;have Q8:=ak yE;clear yD yE;have Bl:=ak yF;have Q9:=ak yG;clear yF yG;have Mw:=ak yH;have Mx:=ak yI;clear yH yI;have HB:=ak (Below.refl w.heap.size w);have H:=ak h;clear h;unfold ch.f at H;go_enter Tryz.func88,Tryz.ntmps88
 go_upto_region 2 with((with_reducible refine gd 1 ?_);(try (refine dy (by rfl) ?_;dsimp only));refine bx 118 #[.slice rE fp.length rF,.slice qG fP.length qH,.slice pw iW.length pz] ?_;intro XP hg w3 eh hb;have iR:=qb hb;have iT:=ak (eh);have jQ:=qg hg;have lP:=qg hg;clear HB;have HB:=iR;have mj:=iT;have aq1:=jQ;have aq2:=lP;clear iR iT jQ lP;clear hb eh hg;obtain⟨Ed,Ee⟩:=cf mj)
 (try simp only[Act.put,List.setIfInBounds_toArray,List.set_cons_zero,List.set_cons_succ])
 go_cut [26] (fun v26 wc=>∃(kq:Nat)(Ra:Bool),v26= .bool Ra∧ae (ch.j0 kq Ra fp fP iW=some r)∧ae (kq≤k)∧ae (wc.heap[XP]? =some (.cells #[(.slice rE fp.length rF),(.slice qG fP.length qH),(.slice pw iW.length pz)] 118 (0,0)))∧ae (Below w.heap.size w wc))
 case first=>
  replace H:=iC H;rcases H with⟨c5,H⟩|⟨c5,H⟩
  ·have iG:((fp.length:Int)==(fP.length:Int))=true:=beq_iff_eq.mpr c5;have JR:((fp.length:Int) !=(fP.length:Int))=false:=bne_eq_false_iff_eq.mpr c5;have amM:(fp.length==fP.length)=true:=by first|simpa using c5|(simp at c5⊢;omega)
   clear c5;(first|rw[iG]|(simp only[bp,bF];rw[iG])|skip);replace H:=iC H;rcases H with⟨c6,H⟩|⟨c6,H⟩
   ·have lu:=decide_eq_true c6;have Gt:decide (fp.length<2)=true:=decide_eq_true (by omega);clear c6;obtain⟨nZ,n9⟩:=cf mj;go_wp2;go_meet
    case rel=>exact⟨_,true,rs,H,⟨by first|omega|exact Nat.le_refl _⟩,⟨bu mj⟩,⟨bl⟩⟩
   ·have lu:=decide_eq_false c6;have Gt:decide (fp.length<2)=false:=decide_eq_false (by omega);clear c6;replace H:=iC H;rcases H with⟨c8,H⟩|⟨c8,H⟩
    ·have rb:=decide_eq_true c8;have Vd:decide (32<fp.length)=true:=decide_eq_true (by omega);clear c8;obtain⟨po,pq⟩:=cf mj;go_wp2;go_meet
     case rel=>exact⟨_,true,rs,H,⟨by first|omega|exact Nat.le_refl _⟩,⟨bu mj⟩,⟨bl⟩⟩
    ·have rb:=decide_eq_false c8;have Vd:decide (32<fp.length)=false:=decide_eq_false (by omega);clear c8;obtain⟨tX,tY⟩:=cf mj;go_wp2;go_meet
     case rel=>exact⟨_,((((fp.length:Int)%2) !=0)),rs,H,⟨by first|omega|exact Nat.le_refl _⟩,⟨bu mj⟩,⟨bl⟩⟩
  ·have iG:((fp.length:Int)==(fP.length:Int))=false:=beq_eq_false_iff_ne.mpr c5;have JR:((fp.length:Int) !=(fP.length:Int))=true:=bne_iff_ne.mpr c5;have amM:(fp.length==fP.length)=false:=by first|simpa using c5|(simp at c5⊢;omega)
   (first|rw[iG]|(simp only[bp,bF];rw[iG])|skip);obtain⟨km,ko⟩:=cf mj;go_wp2;go_meet
   case rel=>exact⟨_,true,rs,H,⟨by first|omega|exact Nat.le_refl _⟩,⟨bu mj⟩,⟨bl⟩⟩
 case rest=>
  clear H;obtain⟨kq,Ra,rfl,H,JQ,mj,HB⟩:=hcut;cases kq with
  |zero=>exact absurd H.1 (by simp [ch.j0])
  |succ Ec=>
   simp only[ch.j0] at H;replace H:=ib H;rcases H with⟨rfl,H⟩|⟨rfl,H⟩
   ·obtain rfl:=s1 H;go_wp2;go_ret;exact⟨re,bl⟩
   ·obtain⟨pV,pW⟩:=cf mj;go_wp2
    go_loopg [30] Ec (fun kq v30 w'=>∃(ku:Int),v30= .int .i64 ku∧ae (ch.l0 kq fp (fp.length:Int) ku fp fP iW=some r)∧ae (kq≤Ec)∧ae (w'.heap[XP]? =some (.cells #[(.slice rE fp.length rF),(.slice qG fP.length qH),(.slice pw iW.length pz)] 118 (0,0)))∧ae (Below w.heap.size w w'))
    case atStart=>exact⟨0,rs,H,⟨Nat.le_refl _⟩,⟨bu mj⟩,⟨bl⟩⟩
    case round=>
     clear H;obtain⟨ku,rfl,H,NI,mj,HB⟩:=hrel;cases gk with
     |zero=>exact absurd H.1 (by simp [ch.l0])
     |succ k2=>
      simp only[ch.l0] at H;replace H:=ic H;rcases H with⟨uz,H⟩|⟨uz,H⟩
      ·replace H:=iO H;obtain⟨LU,H⟩:=H;replace H:=iO H;obtain⟨Xe,H⟩:=H;replace H:=ic H;rcases H with⟨AW,H⟩|⟨AW,H⟩
       ·obtain rfl:=s1 H;obtain⟨Rc,Ks,ml⟩:=Kd.nV yJ.1 ku dt dt;cases Ks;replace ml:=hy ml;have aaR:=tp (0≤(ku:Int));have aaS:=tp (ku<(fp.length:Int));go_wp2;go_ret;exact⟨re,bl⟩
       ·replace H:=ic H;rcases H with⟨wk,H⟩|⟨wk,H⟩
        ·obtain rfl:=s1 H;obtain⟨Rc,Ks,ml⟩:=Kd.nV yJ.1 ku dt dt;cases Ks;replace ml:=hy ml;have aaR:=tp (0≤(ku:Int));have aaS:=tp (ku<(fp.length:Int));go_wp2;go_ret;exact⟨re,bl⟩
        ·replace H:=iO H;obtain⟨tr,H⟩:=H;replace H:=iC H;rcases H with⟨yB,H⟩|⟨yB,H⟩
         ·have rv:=decide_eq_true yB;have GV:decide (2048<(dn fP ku).length)=true:=decide_eq_true (by omega);clear yB;obtain rfl:=s1 H;obtain⟨Rc,Ks,ml⟩:=Kd.nV yJ.1 ku dt dt;cases Ks;replace ml:=hy ml;have aaR:=tp (0≤(ku:Int));have aaS:=tp (ku<(fp.length:Int));obtain⟨vS,vT⟩:=cf mj;obtain⟨afG,aaT,aaU,aaV,wL,wM,wN⟩:=oY Bl.1 ku dt dt;cases aaV;replace wL:=hy wL;have Ve:=ak wN;have Vf:=ak wM;clear wN wM;have amN:=tp (0≤(ku:Int));have amO:=tp (ku<(fP.length:Int));go_wp2;go_ret;exact⟨re,bl⟩
         ·have rv:=decide_eq_false yB;have GV:decide (2048<(dn fP ku).length)=false:=decide_eq_false (by omega);clear yB;obtain⟨Rc,Ks,ml⟩:=Kd.nV yJ.1 ku dt dt;cases Ks;replace ml:=hy ml;have aaR:=tp (0≤(ku:Int));have aaS:=tp (ku<(fp.length:Int));obtain⟨tV,tW⟩:=cf mj;obtain⟨afG,aaT,aaU,aaV,wL,wM,wN⟩:=oY Bl.1 ku dt dt;cases aaV;replace wL:=hy wL;have Ve:=ak wN;have Vf:=ak wM;clear wN wM;have amN:=tp (0≤(ku:Int));have amO:=tp (ku<(fP.length:Int));go_wp2;go_roundg k2
          case measure=>have:=JQ.1;have:=NI.1;omega
          case rel=>exact⟨(wrap64 (ku+1)),rs,H,⟨by have:=JQ.1;have:=NI.1;omega⟩,⟨bu mj⟩,⟨bl⟩⟩
      ·replace H:=bI H;obtain⟨t267,A23,H⟩:=H;(try dsimp only at H);obtain rfl:=s1 H;obtain⟨EE,EI⟩:=cf mj
       go_wp2_with((with_reducible refine gc 41 ?_);refine gl 53 Tryz.func41 #[.slice pw iW.length pz] ?_;(with_reducible refine(bb.calls k2 _ _ iW t267 _ (cu Mw) Mx.1 A23.1).mono ?_);rintro e w25 ⟨rfl,hb⟩;refine⟨_,rfl,?_⟩;replace mj:=qk mj hb;replace HB:=qb hb;clear hb)
       go_ret;exact⟨re,bl⟩
end Go.Proofs.YtmhdcgmfbjcndaaGreatDoor.P
namespace Go.Proofs.YtmhdcgmfbjcndaaGreatDoor.P
open Go.RowKit Go.Proofs.aa.ag Go.Proofs.aa.ao Go.Proofs.aa.ay
attribute [local go_sem↓] Go.wp_at_zero Go.wp_at_succ
abbrev sQ(d0 d1 d2 d3 d4:Int)(d5 d6:Value):Array Value:= #[.int .i64 d0,.int .i64 d1,.int .i64 d2,.int .i64 d3,.int .i64 d4,d5,d6]
abbrev nN(vg vd vr:Value)(i g:Int):Array Value:= #[vg,vd,vr,.int .i64 i,.int .i64 g,.slice none 0 0]
theorem N9(n:Int)(hn:n<1∨2048<n)(d0 d1 d2 d4:Int)(d5 d6:Value)(gx:Nat)(w:World):
 Calls Tryz.prog 137 #[.pointer (some ⟨gx,0,none⟩),.agg (sQ d0 d1 d2 n d4 d5 d6)] w fun e w'=>e= .returned (.int .i64 1)∧Below w.heap.size w w':=by
 by_cases h1:n<1
 ·have q1:decide (1≤n)=false:=decide_eq_false (by omega);clear hn;go_enter Tryz.func137,Tryz.ntmps137;go_wp2;go_ret;exact⟨rfl,ab (Below.refl _ _) _⟩
 ·have q1:decide (1≤n)=true:=decide_eq_true (by omega);have q2:decide (n≤2048)=false:=decide_eq_false (by omega);clear hn h1;go_enter Tryz.func137,Tryz.ntmps137;go_wp2;go_ret;exact⟨rfl,ab (Below.refl _ _) _⟩
def gT(G:List Int)(D:List (List Int))(i:Nat):Bool:=(D.getD i []).length==0&&G.getD i 0 !=65535
theorem Kv(n:Int)(kN:1≤n)(mD:n≤2048)(d0 d1 d2 d4:Int)(d5 d6 vr:Value)(gx gg gd m cg cd:Nat)(G:List Int)(D:List (List Int))(hm:m≤4096)(w:World)
 (hx:w.heap[gx]? =some (.cells (nN (.slice (some ⟨gg,0,none⟩) m cg) (.slice (some ⟨gd,0,none⟩) m cd) vr 0 0) 175 (0,0)))
 (hg:∀i:Nat,i<m→w.cell? ⟨gg,i,none⟩=some (.int .i64 (G.getD i 0)))
 (hd:∀i:Nat,i<m→∃A c,w.cell? ⟨gd,i,none⟩=some (.slice A (D.getD i []).length c))
 (rS:∀i:Nat,i<m→gT G D i=false):
 Calls Tryz.prog 137 #[.pointer (some ⟨gx,0,none⟩),.agg (sQ d0 d1 d2 n d4 d5 d6)] w fun e w'=>e= .returned (.int .i64 9)∧Below w.heap.size w w':=by
 have HG:=ak hg;have HD:=ak hd;have HNO:=ak rS;have q1:=decide_eq_true kN;have q2:=decide_eq_true mD;have y0:=(ah hx 0).trans rfl;have cX:=aN hx;have DX:=ak hx;clear hg hd rS hx;go_enter Tryz.func137,Tryz.ntmps137;go_wp2;obtain⟨W,hW⟩:∃W,W=w.alloc (.cells (sQ d0 d1 d2 n d4 d5 d6) 40):=⟨_,rfl⟩;rw[←hW];have HB:=ak (show Below w.heap.size w W by rw[hW];exact ab (Below.refl _ _) _);have Td:=ak (show W.heap[w.heap.size]? =some (.cells (sQ d0 d1 d2 n d4 d5 d6) 40 (0,0)) by rw[hW];exact aI w _);clear hW y0 cX q1 q2;have DW:=ak (fe DX.1 HB.1);have y1:=cL DW 1
 go_loop [17] (fun v17=>∃i:Nat,v17= .int .i64 i∧ae (i≤m)) (fun v17=>m-(intOf v17).toNat)
 case atStart=>exact⟨0,rfl,⟨Nat.zero_le _⟩⟩
 case round=>
  obtain⟨i,rfl,HI⟩:=hrel
  by_cases cX:i<m
  ·have Kw:decide ((i:Int)<(m:Int))=true:=by simp;omega
   have q0:=eq_true (show(i:Int)<(m:Int) by omega);have p0:=eq_true (show(0:Int)≤(i:Int) by omega);have zp:=gv HB.1 (HG.1 i cX);obtain⟨A,c,BT⟩:=HD.1 i cX;have zd:=gv HB.1 BT;have kN:=HNO.1 i cX;unfold gT at kN;obtain⟨g,hg⟩:∃g,g=G.getD i 0:=⟨_,rfl⟩;obtain⟨l,hl⟩:∃l,l=(D.getD i []).length:=⟨_,rfl⟩;rw[←hg] at zp kN;rw[←hl] at zd kN;clear hg hl BT;cases l with
   |zero=>
    have uN:((g !=65535)=false):=by simpa using kN
    clear kN;have SZ:g=65535:=by simpa using uN
    subst SZ;clear uN;go_wp2
    go_round
    case rel=>exact⟨i+1,by go_num,⟨cX⟩⟩
    case measure=>simp only[intOf];omega
   |succ l=>
    have Pm:(((l+1:Nat):Int)==0)=false:=by simp;omega
    clear kN;go_wp2;refine⟨⟨_,_,_,_,⟨i+1,?_,⟨cX⟩⟩,rfl,rfl,rfl,rfl⟩,?_⟩
    ·go_num
    ·simp only[intOf];omega
  ·have Oa:decide ((i:Int)<(m:Int))=false:=by simp;omega
   go_wp2;go_ret;exact⟨rfl,HB.1⟩
theorem Rh(n:Int)(kN:1≤n)(mD:n≤2048)(d0 d1 d2 d4:Int)(d5 d6 vr:Value)(gx gg gd m cg cd:Nat)(G:List Int)(D:List (List Int))(hm:m≤4096)(t:Nat)(ht:t<m)(w0 w:World)(hB:Below w0.heap.size w0 w)(hxb:w0.heap.size≤gx)(Te:w0.heap.size≤gd)(Vi:∃cs,w.heap[gd]? =some (.cells cs 33 (0,0)))
 (hx:w.heap[gx]? =some (.cells (nN (.slice (some ⟨gg,0,none⟩) m cg) (.slice (some ⟨gd,0,none⟩) m cd) vr 0 0) 175 (0,0)))
 (hg:∀i:Nat,i<m→w.cell? ⟨gg,i,none⟩=some (.int .i64 (G.getD i 0)))
 (hd:∀i:Nat,i<m→∃A c,w.cell? ⟨gd,i,none⟩=some (.slice A (D.getD i []).length c))
 (rS:∀i:Nat,i<t→gT G D i=false) (su:gT G D t=true):
 Calls Tryz.prog 137 #[.pointer (some ⟨gx,0,none⟩),.agg (sQ d0 d1 d2 n d4 d5 d6)] w fun e w'=>e= .returned (.int .i64 0)∧w'.heap[gx]? =some (.cells (nN (.slice (some ⟨gg,0,none⟩) m cg) (.slice (some ⟨gd,0,none⟩) m cd) vr t (G.getD t 0)) 175 (0,0))∧Below w0.heap.size w0 w':=by
 have HG:=ak hg;have HD:=ak hd;have HNO:=ak rS;have amR:=ak su;have tz:=ak hB;have HXB:=ak hxb;have HDB:=ak Te;have HDT:=ak Vi;have q1:=decide_eq_true kN;have q2:=decide_eq_true mD;have y0:=(ah hx 0).trans rfl;have cX:=aN hx;have DX:=ak hx;clear hg hd rS hx su hB hxb Te Vi;go_enter Tryz.func137,Tryz.ntmps137;go_wp2;obtain⟨W,hW⟩:∃W,W=w.alloc (.cells (sQ d0 d1 d2 n d4 d5 d6) 40):=⟨_,rfl⟩;rw[←hW];have HB:=ak (show Below w.heap.size w W by rw[hW];exact ab (Below.refl _ _) _);have Td:=ak (show W.heap[w.heap.size]? =some (.cells (sQ d0 d1 d2 n d4 d5 d6) 40 (0,0)) by rw[hW];exact aI w _);clear hW y0 cX q1 q2;have DW:=ak (fe DX.1 HB.1);have y1:=cL DW 1
 go_loop [17] (fun v17=>∃i:Nat,v17= .int .i64 i∧ae (i≤t)) (fun v17=>m-(intOf v17).toNat)
 case atStart=>exact⟨0,rfl,⟨Nat.zero_le _⟩⟩
 case round=>
  obtain⟨i,rfl,HI⟩:=hrel;have cX:i<m:=by have:=HI.1;omega
  have Kw:decide ((i:Int)<(m:Int))=true:=by simp;omega
  have q0:=eq_true (show(i:Int)<(m:Int) by omega);have p0:=eq_true (show(0:Int)≤(i:Int) by omega);have zp:=gv HB.1 (HG.1 i cX);obtain⟨A,c,BT⟩:=HD.1 i cX;have zd:=gv HB.1 BT
  by_cases J9:i<t
  ·have kN:=HNO.1 i J9;unfold gT at kN;obtain⟨g,hg⟩:∃g,g=G.getD i 0:=⟨_,rfl⟩;obtain⟨l,hl⟩:∃l,l=(D.getD i []).length:=⟨_,rfl⟩;rw[←hg] at zp kN;rw[←hl] at zd kN;clear hg hl BT;cases l with
   |zero=>
    have uN:((g !=65535)=false):=by simpa using kN
    clear kN;have SZ:g=65535:=by simpa using uN
    subst SZ;clear uN;go_wp2
    go_round
    case rel=>exact⟨i+1,by go_num,⟨J9⟩⟩
    case measure=>simp only[intOf];omega
   |succ l=>
    have Pm:(((l+1:Nat):Int)==0)=false:=by simp;omega
    clear kN;go_wp2;refine⟨⟨_,_,_,_,⟨i+1,?_,⟨J9⟩⟩,rfl,rfl,rfl,rfl⟩,?_⟩
    ·go_num
    ·simp only[intOf];omega
  ·obtain rfl:i=t:=by have:=HI.1;omega
   have kN:=amR.1;unfold gT at kN;obtain⟨g,hg⟩:∃g,g=G.getD i 0:=⟨_,rfl⟩;rw[←hg] at zp kN
   have GC:(D.getD i []).length=0:=by
    have:=(Bool.and_eq_true_iff.1 kN).1;exact beq_iff_eq.1 this
   have hg0:(g !=65535)=true:=(Bool.and_eq_true_iff.1 kN).2;rw[GC] at zd;have HGE:=ak hg;clear kN GC BT hg;have HX0:=ak (show Below w0.heap.size w0 W from bR tz.1 HB.1);obtain⟨N,hN⟩:∃N:Nat,n=(N:Int):=⟨n.toNat,by omega⟩;subst hN;have Nw:=tD N (by omega);go_wp2;have HDW:=ak (show∃cs,W.heap[gd]? =some (.cells cs 33 (0,0)) from by obtain⟨cs,h⟩:=HDT.1;exact⟨cs,fe h HB.1⟩);have au1:=aN DW.1;have au2:=aN Td.1;have au3:gd<W.heap.size:=by obtain⟨cs,h⟩:=HDW.1;exact aN h
   have mA:gd≠gx:=by obtain⟨cs,h⟩:=HDW.1;exact dQ h DW.1 (by decide)
   have Ul:gx≠gd:=Ne.symm mA;have z1:∀o,(W.drew.alloc o).cell? ⟨gx,1,none⟩=some (.slice (some ⟨gd,0,none⟩) m cd):=fun o=>(ah (ar (aY DW.1) o) 1).trans rfl;have z2:∀o,(W.drew.alloc o).cell? ⟨w.heap.size,3,none⟩=some (.int .i64 N):=fun o=>(ah (ar (aY Td.1) o) 3).trans rfl
   have z3:∀o,(W.drew.alloc o).cell? ⟨gd,i,none⟩=some (.slice A 0 c):=fun o=>by
    obtain⟨cs,h⟩:=HDW.1;rw[ah (ar (aY h) o)];rw[ah h] at zd;exact zd
   have z4:∀o,(W.drew.alloc o).frozen? ⟨gd,i,none⟩=false:=fun o=>by
    obtain⟨cs,h⟩:=HDW.1;exact bn (ar (aY h) o) _
   have hf2:W.frozen? ⟨gd,i,none⟩=false:=by obtain⟨cs,h⟩:=HDW.1;exact bn h _
   have amU:gd<w.heap.size:=by obtain⟨cs,h⟩:=HDT.1;exact aN h
   have amV:gd≠w.heap.size:=Nat.ne_of_lt amU;have au4:w.heap.size≠gd:=Ne.symm amV;have o3:=cL Td
   go_region_held3 (fun w'=>w'.cell? ⟨gx,1,none⟩=some (.slice (some ⟨gd,0,none⟩) m cd)∧w'.cell? ⟨w.heap.size,3,none⟩=some (.int .i64 N)) (go_keep) (fail)
   all_goals (clear z1 z2 z3 z4)
   all_goals (
    have y3:=cL DW;have yf3:=fZ DW;go_wp2;go_ret;rw[←HGE.1];refine⟨rfl,?_,?_⟩
    ·exact aY (ar (aQ (cs':=nN _ _ _ (i:Int) g) (aQ (cs':=nN _ _ _ (i:Int) 0) (aJ (p:=⟨gd,i,none⟩) DW.1 Ul _) 3 _ rfl) 4 _ rfl) _)
    ·exact dF (ab (aH (aH (aH HX0.1 HDB.1) HXB.1) HXB.1) _))
section
attribute [local go_sem] bD bw cj bV
theorem Vj(d0 d2 d3 d4:Int)(d5 d6 vr:Value)(gx gg gd m cg cd k:Nat)(hk:k<m)(hm:m≤4096)(gen:Int)(Fb:0≤gen∧gen<65535)(OM:Value)(w0 w:World)(hB:Below w0.heap.size w0 w)(pL:w0.heap.size≤gg)(Te:w0.heap.size≤gd)
 (hx:w.heap[gx]? =some (.cells (nN (.slice (some ⟨gg,0,none⟩) m cg) (.slice (some ⟨gd,0,none⟩) m cd) vr 0 0) 175 (0,0)))
 (SI:∃cs,w.heap[gg]? =some (.cells cs 3 (0,0))) (Vi:∃cs,w.heap[gd]? =some (.cells cs 33 (0,0)))
 (hg:w.cell? ⟨gg,k,none⟩=some (.int .i64 gen)) (hd:w.cell? ⟨gd,k,none⟩=some OM):
 Calls Tryz.prog 140 #[.pointer (some ⟨gx,0,none⟩),.agg (sQ d0 (k:Int) d2 d3 d4 d5 d6)] w fun e w'=>e= .returned (.int .i64 0)∧w'.heap[gx]? =some (.cells (nN (.slice (some ⟨gg,0,none⟩) m cg) (.slice (some ⟨gd,0,none⟩) m cd) vr 0 0) 175 (0,0))∧Below w0.heap.size w0 w':=by
 have tz:=ak hB;have HX:=ak hx;have HGT:=ak SI;have HDT:=ak Vi;have HGB:=ak pL;have HDB:=ak Te;have n1:gg≠gx:=by obtain⟨cs,h⟩:=SI;exact dQ h hx (by decide)
 have n2:gd≠gx:=by obtain⟨cs,h⟩:=Vi;exact dQ h hx (by decide)
 have n3:gg≠gd:=by obtain⟨cs,h⟩:=SI;obtain⟨cs2,h2⟩:=Vi;exact dQ h h2 (by decide)
 have n4:=Ne.symm n1;have n5:=Ne.symm n2;have n6:=Ne.symm n3;have l1:gg<w.heap.size:=by obtain⟨cs,h⟩:=SI;exact aN h
 have l2:gd<w.heap.size:=by obtain⟨cs,h⟩:=Vi;exact aN h
 have l3:=aN hx;have f1:w.frozen? ⟨gg,k,none⟩=false:=by obtain⟨cs,h⟩:=SI;exact bn h _
 have f2:w.frozen? ⟨gd,k,none⟩=false:=by obtain⟨cs,h⟩:=Vi;exact bn h _
 have y0:=(ah hx 0).trans rfl;have y1:=(ah hx 1).trans rfl;have q0:=eq_true (show(k:Int)<(m:Int) by omega);have p0:=eq_true (show(0:Int)≤(k:Int) by omega);have q1:decide ((k:Int)<(m:Int))=true:=by simp;omega
 have e1:IntKind.i64.wrap (gen+1)=gen+1:=IntWalk.i64_in _ (by omega);have e2:=eq_false (show¬65535<gen+1 by omega);clear hB SI Vi hx pL Te;go_enter Tryz.func140,Tryz.ntmps140;go_wp2;go_region
 all_goals
  go_wp2;go_ret;exact⟨rfl,aY (ar (aJ (p:=⟨gg,k,none⟩) (aJ (p:=⟨gd,k,none⟩) HX.1 n5 _) n4 _) _),dF (ab (aH (aH tz.1 HDB.1) HGB.1) _)⟩
end
theorem uV(gx:Nat)(d1 d2 d3 d4:Int)(d5 d6:Value)(w:World):
 Calls Tryz.prog 90 #[.pointer (some ⟨gx,0,none⟩),.agg (sQ 1 d1 d2 d3 d4 d5 d6)] w fun e w'=>e= .returned (.func (.func 137) #[.pointer (some ⟨gx,0,none⟩)] #[])∧Below w.heap.size w w':=by
 have ON:∀(fn:Fn)(first cap:Array Value)(w:World),(Instr.makeFunc fn first cap).run Tryz.prog w= .ok (.func fn first cap) w:=fun _ _ _ _=>rfl;go_enter Tryz.func90,Tryz.ntmps90;go_wp2;go_ret;exact⟨rfl,ab (Below.refl _ _) _⟩
theorem Ob(gx:Nat)(d1 d2 d3 d4:Int)(d5 d6:Value)(Ag Ad Ar:Option Addr)(cg cd cr:Nat)(G:List Int)(D:List (List Int))(R:List dJ)(w:World)
 (hx:w.heap[gx]? =some (.cells (nN (.slice Ag G.length cg) (.slice Ad D.length cd) (.slice Ar R.length cr) 0 0) 175 (0,0)))
 (hg:Kd.C (Kd.int .i64) w Ag G.length G) (Kx:G.length≤cg) (hd:Kd.C (Kd.slice 5 (Kd.int .u8)) w Ad D.length D) (Ky:D.length≤cd) (hr:Kd.C gQ w Ar R.length R) (zP:R.length≤cr)
 (yK:iY.f G D R d1 d2=some true):
 Calls Tryz.prog 90 #[.pointer (some ⟨gx,0,none⟩),.agg (sQ 2 d1 d2 d3 d4 d5 d6)] w fun e w'=>e= .returned (.func (.func 140) #[.pointer (some ⟨gx,0,none⟩)] #[])∧Below w.heap.size w w':=by
 have ON:∀(fn:Fn)(first cap:Array Value)(w:World),(Instr.makeFunc fn first cap).run Tryz.prog w= .ok (.func fn first cap) w:=fun _ _ _ _=>rfl;have HX:=ak hx;have HG:=ak hg;have HD:=ak hd;have HR:=ak hr;have HGD:=ak yK;have y0:=(ah hx 0).trans rfl;have y1:=(ah hx 1).trans rfl;have y2:=(ah hx 2).trans rfl;have l0:=aN hx;clear hx hg hd hr yK;go_enter Tryz.func90,Tryz.ntmps90;go_wp2;obtain⟨W,hW⟩:∃W,W=w.alloc (.cells (sQ 2 d1 d2 d3 d4 d5 d6) 40):=⟨_,rfl⟩;rw[←hW];have HB:=ak (show Below w.heap.size w W by rw[hW];exact ab (Below.refl _ _) _);have Td:=ak (show W.heap[w.heap.size]? =some (.cells (sQ 2 d1 d2 d3 d4 d5 d6) 40 (0,0)) by rw[hW];exact aI w _);clear hW y0 y1 y2;have DX:=ak (fe HX.1 HB.1);have lx:=aN DX.1;have lo:=aN Td.1;have y0:=cL DX 0;have y1:=cL DX 1;have y2:=cL DX 2;have z0:=cL Td 0;have z1:=cL Td 1;have z2:=cL Td 2
 go_still_tail 6,(by kernel_rfl)
 have hbd:Below w.heap.size w W.drew:=dF HB.1
 go_wp2_with fail
 refine(iY.calls Ag cg G Ad cd D Ar cr R d1 d2 true _ (Kd.aj HG.1 hbd) Kx (Kd.aj HD.1 hbd) Ky (Kd.aj HR.1 hbd) zP HGD.1).mono ?_;rintro e w9 ⟨rfl,hb⟩;have HB9:=ak (bR hbd hb);have afO:=cK (aY Td.1) hb;clear hbd hb y0 y1 y2 z0 z1 z2 lx lo;have z0:=(ah afO 0).trans rfl;clear afO;go_wp2;go_ret;exact⟨rfl,HB9.1⟩
end Go.Proofs.YtmhdcgmfbjcndaaGreatDoor.P
