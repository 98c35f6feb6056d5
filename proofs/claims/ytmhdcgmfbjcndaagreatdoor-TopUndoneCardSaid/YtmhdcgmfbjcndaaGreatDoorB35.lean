import Derived.Test.YtmhdcgmfbjcndaaGreatDoorB34
set_option linter.unusedVariables false
set_option linter.unusedSimpArgs false
set_option maxRecDepth 100000
set_option maxHeartbeats 8000000
namespace Go.Proofs.YtmhdcgmfbjcndaaGreatDoor.P
open Go.RowKit Go.Proofs.aa.ag Go.Proofs.aa.ao Go.Proofs.aa.ay
def StR(a0 a1 a2 a3 a4 a5:Int)(l6:List cU)(l7:List dJ)(l8:List (List Int))(x:SVal)(W:World):Prop:=∃(A6 A7 A8:Option Addr)(c6 c7 c8:Nat),x=⟨a0,a1,a2,a3,a4,a5,A6,l6.length,c6,A7,l7.length,c7,A8,l8.length,c8⟩∧l6.length≤c6∧l7.length≤c7∧l8.length≤c8∧Kd.C gW W A6 l6.length l6∧Kd.C gQ W A7 l7.length l7∧Kd.C (Kd.slice 5 (Kd.int .u8)) W A8 l8.length l8
structure xX (k:Nat) (a0 a1 a2 a3 a4 a5:Int) (l6:List cU) (l7:List dJ) (l8:List (List Int)):Prop where
 right:aT.f k a0 a1 a2 a3 a4 a5 l6 l7 l8=some true
 pos:0<l6.length
 len:l6.length≤2048
 data:l8.length=l6.length
 XV:jh.f l7=some l7
 Rw:∀i:Nat,dv.f (l8.getD i [])=some (l8.getD i [])
 mright:ch.f k (bg l6) (bT l6 l8) l7=some true
 Of:bh.f k (bg l6) (bT l6 l8) l7=some (bg l6,bT l6 l8,l7)
 copy:bS.f k a0 a1 a2 a3 a4 a5 l6 l7 l8=some (a0,a1,a2,a3,a4,a5,l6,l7,l8)
theorem cQ(l:List cU):(bg l).length=l.length:=List.length_map ..
theorem fq(l:List cU)(d:List (List Int)):(bT l d).length=l.length:=by rw[bT,List.length_map,List.length_range]
def Og(l6:List cU)(l7:List dJ)(l8:List (List Int))(A0 A1 A2:Option Addr)(c0 c1 c2:Nat)(W:World):Prop:=Kd.C (Kd.int .i64) W A0 (bg l6).length (bg l6)∧(bg l6).length≤c0∧Kd.C (Kd.slice 5 (Kd.int .u8)) W A1 (bT l6 l8).length (bT l6 l8)∧(bT l6 l8).length≤c1∧Kd.C gQ W A2 l7.length l7∧l7.length≤c2
theorem Im(k:Nat)(a0 a1 a2 a3 a4 a5:Int)(A6:Option Addr)(c6:Nat)(l6:List cU)(A7:Option Addr)(c7:Nat)(l7:List dJ)(A8:Option Addr)(c8:Nat)(l8:List (List Int))(w:World)(qJ:Kd.C gW w A6 l6.length l6)(om:l6.length≤c6)(qK:Kd.C gQ w A7 l7.length l7)(lY:l7.length≤c7)(sE:Kd.C (Kd.slice 5 (Kd.int .u8)) w A8 l8.length l8)(nT:l8.length≤c8)(S:xX k a0 a1 a2 a3 a4 a5 l6 l7 l8):
 Calls Tryz.prog 50 #[.agg #[.int .i64 a0,.int .i64 a1,.int .i64 a2,.int .i64 a3,.int .i64 a4,.int .i64 a5,.slice A6 l6.length c6,.slice A7 l7.length c7,.slice A8 l8.length c8]] w fun e w'=>∃(A0 A1 A2:Option Addr)(c0 c1 c2:Nat),e= .returned (.agg #[.slice A0 (bg l6).length c0,.slice A1 (bT l6 l8).length c1,.slice A2 l7.length c2])∧Og l6 l7 l8 A0 A1 A2 c0 c1 c2 w'∧Below w.heap.size w w':=by
 refine(Ri a0 a1 a2 a3 a4 a5 A6 c6 l6 A7 c7 l7 A8 c8 l8 w qJ om qK lY sE nT S.len S.XV S.Rw).mono ?_;rintro e w' ⟨B0,B1,B2,d0,d1,d2,rfl,h0,h1,h2,h3,h4,h5,hb⟩;refine⟨B0,B1,B2,d0,d1,d2,by rw[cQ,fq],⟨?_,?_,?_,?_,h4,h5⟩,hb⟩
 ·rw[cQ];exact h0
 ·rw[cQ];exact h1
 ·rw[fq];exact h2
 ·rw[fq];exact h3
def Fh(k:Nat)(a0 a1 a2 a3 a4 a5:Int)(l6:List cU)(l7:List dJ)(l8:List (List Int))(n:Int)(x:SVal)(i g err:Int)(W:World):Prop:=
 err≠0∨∃(t:Nat)(two:Bool)(at_:Int)(ls:List cU),err=0∧i=t∧g=(bg l6).getD t 0∧t<l6.length∧1≤n∧n≤2048∧cm.f k l6=some ((t:Int),true)∧dW.f k a0 a1 a2 a3 a4 a5 l6 l7 l8 n=some (two,at_,true)∧cq.f k l6 0 false two at_ n=some (ls,(t:Int),(bg l6).getD t 0,0)∧StR a0 a1 a2 a3 a4 a5 ls l7 (l8.set t (List.replicate n.toNat 0)) x W
theorem aa'(k:Nat)(a0 a1 a2 a3 a4 a5:Int)(A6:Option Addr)(c6:Nat)(l6:List cU)(A7:Option Addr)(c7:Nat)(l7:List dJ)(A8:Option Addr)(c8:Nat)(l8:List (List Int))(n:Int)(hn:n<1∨2048<n)(w0 w:World)(ju:Below w0.heap.size w0 w)(qJ:Kd.C gW w A6 l6.length l6)(om:l6.length≤c6)(qK:Kd.C gQ w A7 l7.length l7)(lY:l7.length≤c7)(sE:Kd.C (Kd.slice 5 (Kd.int .u8)) w0 A8 l8.length l8)(nT:l8.length≤c8)(S:xX k a0 a1 a2 a3 a4 a5 l6 l7 l8):
 Calls Tryz.prog 24 #[.agg #[.int .i64 a0,.int .i64 a1,.int .i64 a2,.int .i64 a3,.int .i64 a4,.int .i64 a5,.slice A6 l6.length c6,.slice A7 l7.length c7,.slice A8 l8.length c8],.agg (sQ 1 0 0 n 0 (.slice none 0 0) S0)] w (mo (Fh k a0 a1 a2 a3 a4 a5 l6 l7 l8 n) w0 w):=by
 refine Bq (fun _ _ _=>False) _ (Og l6 l7 l8) (bg l6).length (bT l6 l8).length l7.length 0 0 1 52 a0 a1 a2 a3 a4 a5 A6 l6.length c6 A7 l7.length c7 A8 l8.length c8 1 0 0 n 0 (.slice none 0 0) S0 w0 w ju (.inl ⟨rfl,rfl⟩) ?_ ?_ ?_ ?_ ?_ ?_
 ·exact fun W hb=>Im k a0 a1 a2 a3 a4 a5 A6 c6 l6 A7 c7 l7 A8 c8 l8 W (Kd.aj qJ hb) om (Kd.aj qK hb) lY (Kd.aj (Kd.aj sE ju) hb) nT S
 ·rintro B0 B1 B2 d0 d1 d2 W1 W ⟨h0,h1,h2,h3,h4,h5⟩ hb;exact Oe k n hn B0 B1 B2 d0 d1 d2 _ _ _ W (Kd.aj h0 hb) h1 (Kd.aj h2 hb) h3 (Kd.aj h4 hb) h5 S.mright S.Of (by rw[cQ,fq]) (by rw[cQ];exact S.pos) (by rw[cQ];have:=S.len;omega)
 ·intro h;cases h
 ·exact fun _ W=> .inl (by decide)
 ·exact fun x e2 W h _=> .inl h
 ·exact fun x W h=>h.elim
theorem Vr(k:Nat)(a0 a1 a2 a3 a4 a5:Int)(A6:Option Addr)(c6:Nat)(l6:List cU)(A7:Option Addr)(c7:Nat)(l7:List dJ)(A8:Option Addr)(c8:Nat)(l8:List (List Int))(n:Int)(kN:1≤n)(mD:n≤2048)(w0 w:World)(ju:Below w0.heap.size w0 w)(qJ:Kd.C gW w A6 l6.length l6)(om:l6.length≤c6)(qK:Kd.C gQ w A7 l7.length l7)(lY:l7.length≤c7)(sE:Kd.C (Kd.slice 5 (Kd.int .u8)) w0 A8 l8.length l8)(nT:l8.length≤c8)(S:xX k a0 a1 a2 a3 a4 a5 l6 l7 l8)(rS:∀i:Nat,i<l6.length→gT (bg l6) (bT l6 l8) i=false):
 Calls Tryz.prog 24 #[.agg #[.int .i64 a0,.int .i64 a1,.int .i64 a2,.int .i64 a3,.int .i64 a4,.int .i64 a5,.slice A6 l6.length c6,.slice A7 l7.length c7,.slice A8 l8.length c8],.agg (sQ 1 0 0 n 0 (.slice none 0 0) S0)] w (mo (Fh k a0 a1 a2 a3 a4 a5 l6 l7 l8 n) w0 w):=by
 refine Bq (fun _ _ _=>False) _ (Og l6 l7 l8) (bg l6).length (bT l6 l8).length l7.length 0 0 9 52 a0 a1 a2 a3 a4 a5 A6 l6.length c6 A7 l7.length c7 A8 l8.length c8 1 0 0 n 0 (.slice none 0 0) S0 w0 w ju (.inl ⟨rfl,rfl⟩) ?_ ?_ ?_ ?_ ?_ ?_
 ·exact fun W hb=>Im k a0 a1 a2 a3 a4 a5 A6 c6 l6 A7 c7 l7 A8 c8 l8 W (Kd.aj qJ hb) om (Kd.aj qK hb) lY (Kd.aj (Kd.aj sE ju) hb) nT S
 ·rintro B0 B1 B2 d0 d1 d2 W1 W ⟨h0,h1,h2,h3,h4,h5⟩ hb;exact Kz k n kN mD B0 B1 B2 d0 d1 d2 _ _ _ W (Kd.aj h0 hb) h1 (Kd.aj h2 hb) h3 (Kd.aj h4 hb) h5 S.mright S.Of (by rw[cQ,fq]) (by rw[cQ];exact S.pos) (by rw[cQ];have:=S.len;omega) (fun i hi=>rS i (by rw[cQ] at hi;exact hi))
 ·intro h;cases h
 ·exact fun _ W=> .inl (by decide)
 ·exact fun x e2 W h _=> .inl h
 ·exact fun x W h=>h.elim
theorem Vs(k:Nat)(a0 a1 a2 a3 a4 a5:Int)(A6:Option Addr)(c6:Nat)(l6:List cU)(A7:Option Addr)(c7:Nat)(l7:List dJ)(A8:Option Addr)(c8:Nat)(l8:List (List Int))(n:Int)(kN:1≤n)(mD:n≤2048)(t:Nat)(w0 w:World)(ju:Below w0.heap.size w0 w)(qJ:Kd.C gW w A6 l6.length l6)(om:l6.length≤c6)(qK:Kd.C gQ w A7 l7.length l7)(lY:l7.length≤c7)(sE:Kd.C (Kd.slice 5 (Kd.int .u8)) w0 A8 l8.length l8)(nT:l8.length≤c8)(S:xX k a0 a1 a2 a3 a4 a5 l6 l7 l8)
 (ht:t<l6.length) (rS:∀i:Nat,i<t→gT (bg l6) (bT l6 l8) i=false) (su:gT (bg l6) (bT l6 l8) t=true) (hN:cm.f k l6=some ((t:Int),true)) (hF:dW.f k a0 a1 a2 a3 a4 a5 l6 l7 l8 n=some (false,0,false)):
 Calls Tryz.prog 24 #[.agg #[.int .i64 a0,.int .i64 a1,.int .i64 a2,.int .i64 a3,.int .i64 a4,.int .i64 a5,.slice A6 l6.length c6,.slice A7 l7.length c7,.slice A8 l8.length c8],.agg (sQ 1 0 0 n 0 (.slice none 0 0) S0)] w (mo (Fh k a0 a1 a2 a3 a4 a5 l6 l7 l8 n) w0 w):=by
 refine Bq (fun _ err _=>err=10) _ (Og l6 l7 l8) (bg l6).length (bT l6 l8).length l7.length t ((bg l6).getD t 0) 0 52 a0 a1 a2 a3 a4 a5 A6 l6.length c6 A7 l7.length c7 A8 l8.length c8 1 0 0 n 0 (.slice none 0 0) S0 w0 w ju (.inl ⟨rfl,rfl⟩) ?_ ?_ ?_ ?_ ?_ ?_
 ·exact fun W hb=>Im k a0 a1 a2 a3 a4 a5 A6 c6 l6 A7 c7 l7 A8 c8 l8 W (Kd.aj qJ hb) om (Kd.aj qK hb) lY (Kd.aj (Kd.aj sE ju) hb) nT S
 ·rintro B0 B1 B2 d0 d1 d2 W1 W ⟨h0,h1,h2,h3,h4,h5⟩ hb;exact Ig k n kN mD t B0 B1 B2 d0 d1 d2 _ _ _ W (Kd.aj h0 hb) h1 (Kd.aj h2 hb) h3 (Kd.aj h4 hb) h5 S.mright S.Of (by rw[cQ,fq]) (by rw[cQ];exact S.pos) (by rw[cQ];have:=S.len;omega) (by rw[cQ];exact ht) rS su
 ·intro _ gw q0 m0 r0 q1 m1 r1 q2 m2 r2 W hb hw;refine Ih _ a0 a1 a2 a3 a4 a5 A6 l6.length c6 A7 l7.length c7 A8 l8.length c8 q0 m0 r0 q1 m1 r1 q2 m2 r2 1 0 0 n 0 _ _ gw w0 W (ju.trans (hb.mono ju.size)) hw ?_;intro W2 iq;have h2:=ju.trans ((hb.trans (iq.mono hb.size)).mono ju.size);have h3:=hb.trans (iq.mono hb.size);refine(aaM k a0 a1 a2 a3 a4 a5 A6 c6 l6 A7 c7 l7 A8 c8 l8 n w0 W2 h2 (Kd.aj qJ h3) om (Kd.aj qK h3) lY sE nT S.right (by unfold fE.f;rw[if_pos kN,decide_eq_true mD]) _ hN hF).mono ?_;rintro e w' ⟨rfl,rQ⟩;exact⟨SVal.z,0,0,10,rfl,fun _ _=>rfl,rQ⟩
 ·exact fun h=>absurd rfl h
 ·exact fun x e2 W h _=> .inl h
 ·exact fun x W h=>absurd h (by decide)
def af8(a0 a1 a2 a3 a4 a5:Int)(l7:List dJ)(ls:List cU)(d:List (List Int))(t:Nat)(gen:Int)(x:SVal)(i g err:Int)(W:World):Prop:=err=0∧i=t∧g=gen∧StR a0 a1 a2 a3 a4 a5 ls l7 d x W
theorem mo.imp{Q Q':SVal→Int→Int→Int→World→Prop}{w0 w w':World}{e:Ending}(h:mo Q w0 w e w')(hi:∀x i g err W,Q x i g err W→Q' x i g err W):mo Q' w0 w e w':=by
 obtain⟨x,i,g,err,he,hf,hb⟩:=h;exact⟨x,i,g,err,he,fun V hV=>hi _ _ _ _ _ (hf V hV),hb⟩
theorem Rx(k:Nat)(a0 a1 a2 a3 a4 a5:Int)(A6:Option Addr)(c6:Nat)(l6:List cU)(A7:Option Addr)(c7:Nat)(l7:List dJ)(A8:Option Addr)(c8:Nat)(l8:List (List Int))(n:Int)(kN:1≤n)(mD:n≤2048)(t:Nat)(two:Bool)(at_:Int)(ls:List cU)(w0 w:World)(ju:Below w0.heap.size w0 w)(qJ:Kd.C gW w A6 l6.length l6)(om:l6.length≤c6)(qK:Kd.C gQ w A7 l7.length l7)(lY:l7.length≤c7)(sE:Kd.C (Kd.slice 5 (Kd.int .u8)) w0 A8 l8.length l8)(nT:l8.length≤c8)(S:xX k a0 a1 a2 a3 a4 a5 l6 l7 l8)
 (ht:t<l6.length) (rS:∀i:Nat,i<t→gT (bg l6) (bT l6 l8) i=false) (su:gT (bg l6) (bT l6 l8) t=true) (hN:cm.f k l6=some ((t:Int),true)) (hF:dW.f k a0 a1 a2 a3 a4 a5 l6 l7 l8 n=some (two,at_,true)) (Ta:cq.f k l6 0 false two at_ n=some (ls,(t:Int),(bg l6).getD t 0,0)):
 Calls Tryz.prog 24 #[.agg #[.int .i64 a0,.int .i64 a1,.int .i64 a2,.int .i64 a3,.int .i64 a4,.int .i64 a5,.slice A6 l6.length c6,.slice A7 l7.length c7,.slice A8 l8.length c8],.agg (sQ 1 0 0 n 0 (.slice none 0 0) S0)] w (mo (af8 a0 a1 a2 a3 a4 a5 l7 ls (l8.set t (List.replicate n.toNat 0)) t ((bg l6).getD t 0)) w0 w):=by
 refine Bq (fun x err W=>err=0∧StR a0 a1 a2 a3 a4 a5 ls l7 (l8.set t (List.replicate n.toNat 0)) x W) _ (Og l6 l7 l8) (bg l6).length (bT l6 l8).length l7.length t ((bg l6).getD t 0) 0 52 a0 a1 a2 a3 a4 a5 A6 l6.length c6 A7 l7.length c7 A8 l8.length c8 1 0 0 n 0 (.slice none 0 0) S0 w0 w ju (.inl ⟨rfl,rfl⟩) ?_ ?_ ?_ ?_ ?_ ?_
 ·exact fun W hb=>Im k a0 a1 a2 a3 a4 a5 A6 c6 l6 A7 c7 l7 A8 c8 l8 W (Kd.aj qJ hb) om (Kd.aj qK hb) lY (Kd.aj (Kd.aj sE ju) hb) nT S
 ·rintro B0 B1 B2 d0 d1 d2 W1 W ⟨h0,h1,h2,h3,h4,h5⟩ hb;exact Ig k n kN mD t B0 B1 B2 d0 d1 d2 _ _ _ W (Kd.aj h0 hb) h1 (Kd.aj h2 hb) h3 (Kd.aj h4 hb) h5 S.mright S.Of (by rw[cQ,fq]) (by rw[cQ];exact S.pos) (by rw[cQ];have:=S.len;omega) (by rw[cQ];exact ht) rS su
 ·intro _ gw q0 m0 r0 q1 m1 r1 q2 m2 r2 W hb hw;refine Ih _ a0 a1 a2 a3 a4 a5 A6 l6.length c6 A7 l7.length c7 A8 l8.length c8 q0 m0 r0 q1 m1 r1 q2 m2 r2 1 0 0 n 0 _ _ gw w0 W (ju.trans (hb.mono ju.size)) hw ?_;intro W2 iq;have h2:=ju.trans ((hb.trans (iq.mono hb.size)).mono ju.size);have h3:=hb.trans (iq.mono hb.size);refine(aaN k a0 a1 a2 a3 a4 a5 A6 c6 l6 A7 c7 l7 A8 c8 l8 n two at_ ls (t:Int) _ w0 W2 h2 (Kd.aj qJ h3) om (Kd.aj qK h3) lY sE nT S.right (by unfold fE.f;rw[if_pos kN,decide_eq_true mD]) _ hN hF S.copy Ta ⟨by omega,mD⟩ (by omega) (by have:=S.data;omega)).mono ?_;rintro e w' ⟨B6,B7,B8,d6,d7,d8,rfl,f6,g6,f7,g7,f8,g8,rQ⟩;rw[Int.toNat_natCast] at f8;exact⟨⟨a0,a1,a2,a3,a4,a5,B6,ls.length,d6,B7,l7.length,d7,B8,l8.length,d8⟩,(t:Int),_,0,rfl,fun V hV=>⟨rfl,B6,B7,B8,d6,d7,d8,by rw[List.length_set],g6,g7,by rw[List.length_set];exact g8,f6 V hV,f7 V hV,by rw[List.length_set];exact f8 V hV⟩,rQ⟩
 ·exact fun h=>absurd rfl h
 ·exact fun x e2 W h h2=>absurd h2.1 h
 ·exact fun x W h=>⟨rfl,rfl,rfl,h.2⟩
theorem aba(k:Nat)(a0 a1 a2 a3 a4 a5:Int)(A6:Option Addr)(c6:Nat)(l6:List cU)(A7:Option Addr)(c7:Nat)(l7:List dJ)(A8:Option Addr)(c8:Nat)(l8:List (List Int))(n:Int)(kN:1≤n)(mD:n≤2048)(t:Nat)(two:Bool)(at_:Int)(ls:List cU)(w0 w:World)(ju:Below w0.heap.size w0 w)(qJ:Kd.C gW w A6 l6.length l6)(om:l6.length≤c6)(qK:Kd.C gQ w A7 l7.length l7)(lY:l7.length≤c7)(sE:Kd.C (Kd.slice 5 (Kd.int .u8)) w0 A8 l8.length l8)(nT:l8.length≤c8)(S:xX k a0 a1 a2 a3 a4 a5 l6 l7 l8)
 (ht:t<l6.length) (rS:∀i:Nat,i<t→gT (bg l6) (bT l6 l8) i=false) (su:gT (bg l6) (bT l6 l8) t=true) (hN:cm.f k l6=some ((t:Int),true)) (hF:dW.f k a0 a1 a2 a3 a4 a5 l6 l7 l8 n=some (two,at_,true)) (Ta:cq.f k l6 0 false two at_ n=some (ls,(t:Int),(bg l6).getD t 0,0)):
 Calls Tryz.prog 8 #[.agg #[.int .i64 a0,.int .i64 a1,.int .i64 a2,.int .i64 a3,.int .i64 a4,.int .i64 a5,.slice A6 l6.length c6,.slice A7 l7.length c7,.slice A8 l8.length c8],.agg (sQ 1 0 0 n 0 (.slice none 0 0) S0)] w (mo (af8 a0 a1 a2 a3 a4 a5 l7 ls (l8.set t (List.replicate n.toNat 0)) t ((bg l6).getD t 0)) w0 w):=by
 refine uY _ k a0 a1 a2 a3 a4 a5 A6 c6 l6 A7 c7 l7 A8 c8 l8 1 0 0 n 0 _ _ w0 w ju qJ om qK lY (Kd.aj sE ju) nT S.right ?_;intro W hb;exact Rx k a0 a1 a2 a3 a4 a5 A6 c6 l6 A7 c7 l7 A8 c8 l8 n kN mD t two at_ ls w0 W (ju.trans (hb.mono ju.size)) (Kd.aj qJ hb) om (Kd.aj qK hb) lY sE nT S ht rS su hN hF Ta
inductive xY (k:Nat) (a0 a1 a2 a3 a4 a5:Int) (l6:List cU) (l7:List dJ) (l8:List (List Int)) (n:Int):Prop where
 |bad (hn:n<1∨2048<n)
 |none (kN:1≤n) (mD:n≤2048) (rS:∀i:Nat,i<l6.length→gT (bg l6) (bT l6 l8) i=false)
 |full (kN:1≤n) (mD:n≤2048) (t:Nat) (ht:t<l6.length) (rS:∀i:Nat,i<t→gT (bg l6) (bT l6 l8) i=false) (su:gT (bg l6) (bT l6 l8) t=true) (hN:cm.f k l6=some ((t:Int),true)) (hF:dW.f k a0 a1 a2 a3 a4 a5 l6 l7 l8 n=some (false,0,false))
 |yes (kN:1≤n) (mD:n≤2048) (t:Nat) (two:Bool) (at_:Int) (ls:List cU) (ht:t<l6.length) (rS:∀i:Nat,i<t→gT (bg l6) (bT l6 l8) i=false) (su:gT (bg l6) (bT l6 l8) t=true) (hN:cm.f k l6=some ((t:Int),true)) (hF:dW.f k a0 a1 a2 a3 a4 a5 l6 l7 l8 n=some (two,at_,true)) (Ta:cq.f k l6 0 false two at_ n=some (ls,(t:Int),(bg l6).getD t 0,0))
theorem Ry(k:Nat)(a0 a1 a2 a3 a4 a5:Int)(A6:Option Addr)(c6:Nat)(l6:List cU)(A7:Option Addr)(c7:Nat)(l7:List dJ)(A8:Option Addr)(c8:Nat)(l8:List (List Int))(n:Int)(w0 w:World)(ju:Below w0.heap.size w0 w)(qJ:Kd.C gW w A6 l6.length l6)(om:l6.length≤c6)(qK:Kd.C gQ w A7 l7.length l7)(lY:l7.length≤c7)(sE:Kd.C (Kd.slice 5 (Kd.int .u8)) w0 A8 l8.length l8)(nT:l8.length≤c8)(S:xX k a0 a1 a2 a3 a4 a5 l6 l7 l8)(C:xY k a0 a1 a2 a3 a4 a5 l6 l7 l8 n):
 Calls Tryz.prog 8 #[.agg #[.int .i64 a0,.int .i64 a1,.int .i64 a2,.int .i64 a3,.int .i64 a4,.int .i64 a5,.slice A6 l6.length c6,.slice A7 l7.length c7,.slice A8 l8.length c8],.agg (sQ 1 0 0 n 0 (.slice none 0 0) S0)] w (mo (Fh k a0 a1 a2 a3 a4 a5 l6 l7 l8 n) w0 w):=by
 refine uY _ k a0 a1 a2 a3 a4 a5 A6 c6 l6 A7 c7 l7 A8 c8 l8 1 0 0 n 0 _ _ w0 w ju qJ om qK lY (Kd.aj sE ju) nT S.right ?_;intro W hb;have hB:=ju.trans (hb.mono ju.size);rcases C with⟨hn⟩|⟨h1,h2,rS⟩|⟨h1,h2,t,ht,rS,su,hN,hF⟩|⟨h1,h2,t,two,at_,ls,ht,rS,su,hN,hF,Ta⟩
 ·exact aa' k a0 a1 a2 a3 a4 a5 A6 c6 l6 A7 c7 l7 A8 c8 l8 n hn w0 W hB (Kd.aj qJ hb) om (Kd.aj qK hb) lY sE nT S
 ·exact Vr k a0 a1 a2 a3 a4 a5 A6 c6 l6 A7 c7 l7 A8 c8 l8 n h1 h2 w0 W hB (Kd.aj qJ hb) om (Kd.aj qK hb) lY sE nT S rS
 ·exact Vs k a0 a1 a2 a3 a4 a5 A6 c6 l6 A7 c7 l7 A8 c8 l8 n h1 h2 t w0 W hB (Kd.aj qJ hb) om (Kd.aj qK hb) lY sE nT S ht rS su hN hF
 ·exact(Rx k a0 a1 a2 a3 a4 a5 A6 c6 l6 A7 c7 l7 A8 c8 l8 n h1 h2 t two at_ ls w0 W hB (Kd.aj qJ hb) om (Kd.aj qK hb) lY sE nT S ht rS su hN hF Ta).mono (fun e w' h=>h.imp fun x i g err V h=> .inr ⟨t,two,at_,ls,h.1,h.2.1,h.2.2.1,ht,h1,h2,hN,hF,Ta,h.2.2.2⟩)
def XW(a0 a1 a2 a3 a4 a5:Int)(l7:List dJ)(ls:List cU)(d:List (List Int))(x:SVal)(i g err:Int)(W:World):Prop:=err=0∧StR a0 a1 a2 a3 a4 a5 ls l7 d x W
theorem Vt(k:Nat)(a0 a1 a2 a3 a4 a5:Int)(A6:Option Addr)(c6:Nat)(l6:List cU)(A7:Option Addr)(c7:Nat)(l7:List dJ)(A8:Option Addr)(c8:Nat)(l8:List (List Int))(j:Nat)(ls:List cU)(r2:Int)(w0 w:World)(ju:Below w0.heap.size w0 w)(qJ:Kd.C gW w A6 l6.length l6)(om:l6.length≤c6)(qK:Kd.C gQ w A7 l7.length l7)(lY:l7.length≤c7)(sE:Kd.C (Kd.slice 5 (Kd.int .u8)) w0 A8 l8.length l8)(nT:l8.length≤c8)(S:xX k a0 a1 a2 a3 a4 a5 l6 l7 l8)
 (hj:j<l6.length) (Fb:0≤(bg l6).getD j 0∧(bg l6).getD j 0<65535) (yK:iY.f (bg l6) (bT l6 l8) l7 (j:Int) ((bg l6).getD j 0)=some true) (hLv:jM.f k a0 a1 a2 a3 a4 a5 l6 l7 l8 (j:Int)=some true) (hFr:jE.f k l6 (j:Int)=some (ls,r2)):
 Calls Tryz.prog 24 #[.agg #[.int .i64 a0,.int .i64 a1,.int .i64 a2,.int .i64 a3,.int .i64 a4,.int .i64 a5,.slice A6 l6.length c6,.slice A7 l7.length c7,.slice A8 l8.length c8],.agg (sQ 2 (j:Int) ((bg l6).getD j 0) 0 0 (.slice none 0 0) S0)] w (mo (XW a0 a1 a2 a3 a4 a5 l7 ls (l8.set j [])) w0 w):=by
 refine Bq (fun x err W=>err=0∧StR a0 a1 a2 a3 a4 a5 ls l7 (l8.set j []) x W) _ (Og l6 l7 l8) (bg l6).length (bT l6 l8).length l7.length 0 0 0 53 a0 a1 a2 a3 a4 a5 A6 l6.length c6 A7 l7.length c7 A8 l8.length c8 2 (j:Int) ((bg l6).getD j 0) 0 0 (.slice none 0 0) S0 w0 w ju (.inr ⟨rfl,rfl⟩) ?_ ?_ ?_ ?_ ?_ ?_
 ·exact fun W hb=>Im k a0 a1 a2 a3 a4 a5 A6 c6 l6 A7 c7 l7 A8 c8 l8 W (Kd.aj qJ hb) om (Kd.aj qK hb) lY (Kd.aj (Kd.aj sE ju) hb) nT S
 ·rintro B0 B1 B2 d0 d1 d2 W1 W ⟨h0,h1,h2,h3,h4,h5⟩ hb;exact KA k j _ B0 B1 B2 d0 d1 d2 _ _ _ W (Kd.aj h0 hb) h1 (Kd.aj h2 hb) h3 (Kd.aj h4 hb) h5 S.mright S.Of (by rw[cQ,fq]) (by rw[cQ];exact S.pos) (by rw[cQ];have:=S.len;omega) (by rw[cQ];exact hj) Fb yK
 ·intro _ gw q0 m0 r0 q1 m1 r1 q2 m2 r2 W hb hw;refine Vq _ a0 a1 a2 a3 a4 a5 A6 l6.length c6 A7 l7.length c7 A8 l8.length c8 q0 m0 r0 q1 m1 r1 q2 m2 r2 2 (j:Int) _ 0 0 _ _ gw w0 W (ju.trans (hb.mono ju.size)) hw ?_;intro W2 iq;have h2:=ju.trans ((hb.trans (iq.mono hb.size)).mono ju.size);have h3:=hb.trans (iq.mono hb.size);refine(Vc k a0 a1 a2 a3 a4 a5 A6 c6 l6 A7 c7 l7 A8 c8 l8 (j:Int) ls _ w0 W2 h2 (Kd.aj qJ h3) om (Kd.aj qK h3) lY sE nT hLv S.copy hFr (by omega) (by have:=S.data;omega)).mono ?_;rintro e w' ⟨B6,B7,B8,d6,d7,d8,rfl,f6,g6,f7,g7,f8,g8,rQ⟩;rw[Int.toNat_natCast] at f8;exact⟨⟨a0,a1,a2,a3,a4,a5,B6,ls.length,d6,B7,l7.length,d7,B8,l8.length,d8⟩,0,rfl,fun V hV=>⟨rfl,B6,B7,B8,d6,d7,d8,by rw[List.length_set],g6,g7,by rw[List.length_set];exact g8,f6 V hV,f7 V hV,by rw[List.length_set];exact f8 V hV⟩,rQ⟩
 ·exact fun h=>absurd rfl h
 ·exact fun x e2 W h h2=>absurd h2.1 h
 ·exact fun x W h=>h
theorem Vu(k:Nat)(a0 a1 a2 a3 a4 a5:Int)(A6:Option Addr)(c6:Nat)(l6:List cU)(A7:Option Addr)(c7:Nat)(l7:List dJ)(A8:Option Addr)(c8:Nat)(l8:List (List Int))(j:Nat)(ls:List cU)(r2:Int)(w0 w:World)(ju:Below w0.heap.size w0 w)(qJ:Kd.C gW w A6 l6.length l6)(om:l6.length≤c6)(qK:Kd.C gQ w A7 l7.length l7)(lY:l7.length≤c7)(sE:Kd.C (Kd.slice 5 (Kd.int .u8)) w0 A8 l8.length l8)(nT:l8.length≤c8)(S:xX k a0 a1 a2 a3 a4 a5 l6 l7 l8)
 (hj:j<l6.length) (Fb:0≤(bg l6).getD j 0∧(bg l6).getD j 0<65535) (yK:iY.f (bg l6) (bT l6 l8) l7 (j:Int) ((bg l6).getD j 0)=some true) (hLv:jM.f k a0 a1 a2 a3 a4 a5 l6 l7 l8 (j:Int)=some true) (hFr:jE.f k l6 (j:Int)=some (ls,r2)):
 Calls Tryz.prog 8 #[.agg #[.int .i64 a0,.int .i64 a1,.int .i64 a2,.int .i64 a3,.int .i64 a4,.int .i64 a5,.slice A6 l6.length c6,.slice A7 l7.length c7,.slice A8 l8.length c8],.agg (sQ 2 (j:Int) ((bg l6).getD j 0) 0 0 (.slice none 0 0) S0)] w (mo (XW a0 a1 a2 a3 a4 a5 l7 ls (l8.set j [])) w0 w):=by
 refine uY _ k a0 a1 a2 a3 a4 a5 A6 c6 l6 A7 c7 l7 A8 c8 l8 2 (j:Int) _ 0 0 _ _ w0 w ju qJ om qK lY (Kd.aj sE ju) nT S.right ?_;intro W hb;exact Vt k a0 a1 a2 a3 a4 a5 A6 c6 l6 A7 c7 l7 A8 c8 l8 j ls r2 w0 W (ju.trans (hb.mono ju.size)) (Kd.aj qJ hb) om (Kd.aj qK hb) lY sE nT S hj Fb yK hLv hFr
end Go.Proofs.YtmhdcgmfbjcndaaGreatDoor.P
namespace Go.Proofs.YtmhdcgmfbjcndaaGreatDoor.Pl
open Go.RowKit Go.Proofs.YtmhdcgmfbjcndaaGreatDoor.P Go.Proofs.aa.ag Go.Proofs.aa.ao Go.Proofs.YtmhdcgmfbjcndaaGreatDoor.OR
theorem sw(l:List (List Int))(i:Nat)(h:i<l.length):l.set i (dn l (i:Int))=l:=by
 rw[rdL l i h];exact List.set_getElem_self h
theorem KC(r:List Int)(h:r.length≤1000000):dv.f r=some r:=by
 unfold dv.f;rw[if_pos (by omega)]
theorem Oh(G:List Int)(R:List dJ)(D:List (List Int))(hD:D.length≤1000000)(hr:∀j:Nat,j<D.length→(dn D j).length≤1000000):∀(d k i:Nat),i+d=D.length→d<k→bh.l0 k (D.length:Int) i G D R=some (G,D,R):=by
 intro d
 induction d with
 |zero=>
  intro k i hi hk;obtain⟨k,rfl⟩:∃m,k=m+1:=⟨k-1,by omega⟩;simp only[bh.l0];rw[if_neg (by omega)]
 |succ d ih=>
  intro k i hi hk;obtain⟨k,rfl⟩:∃m,k=m+1:=⟨k-1,by omega⟩;simp only[bh.l0];rw[if_pos (by omega),if_pos (by omega),if_pos (by omega),KC _ (hr i (by omega)),Option.bind_some,Int.toNat_natCast,sw D i (by omega),rh i (by omega)];exact ih k (i+1) (by omega) (by omega)
theorem Oi(a0 a1 a2 a3 a4 a5:Int)(G:List cU)(R:List dJ)(D:List (List Int))(hD:D.length≤1000000)(hr:∀j:Nat,j<D.length→(dn D j).length≤1000000):∀(d k i:Nat),i+d=D.length→d<k→bS.l0 k (D.length:Int) i a0 a1 a2 a3 a4 a5 G R D=some (a0,a1,a2,a3,a4,a5,G,R,D):=by
 intro d
 induction d with
 |zero=>
  intro k i hi hk;obtain⟨k,rfl⟩:∃m,k=m+1:=⟨k-1,by omega⟩;simp only[bS.l0];rw[if_neg (by omega)]
 |succ d ih=>
  intro k i hi hk;obtain⟨k,rfl⟩:∃m,k=m+1:=⟨k-1,by omega⟩;simp only[bS.l0];rw[if_pos (by omega),if_pos (by omega),if_pos (by omega),KC _ (hr i (by omega)),Option.bind_some,Int.toNat_natCast,sw D i (by omega),rh i (by omega)];exact ih k (i+1) (by omega) (by omega)
theorem Io(G:List Int)(R:List dJ)(D:List (List Int))(Tf:D.length=G.length)(hG:G.length≤1000000)(hR:R.length≤1000)(hg:∀j:Nat,j<G.length→0≤rd G j∧rd G j≤65535)(hr:∀j:Nat,j<D.length→(dn D j).length≤2048)(hro:uU R=true):∀(d k i:Nat),i+d=G.length→d+1001<k→ch.l0 k G (G.length:Int) i G D R=some true:=by
 intro d
 induction d with
 |zero=>
  intro k i hi hk;obtain⟨k,rfl⟩:∃m,k=m+1:=⟨k-1,by omega⟩;simp only[ch.l0];rw[if_neg (by omega),(Hh k R (by omega) (by omega)).1,hro];rfl
 |succ d ih=>
  intro k i hi hk;obtain⟨k,rfl⟩:∃m,k=m+1:=⟨k-1,by omega⟩;simp only[ch.l0];have h1:=hg i (by omega);have h2:=hr i (by omega);rw[if_pos (by omega),if_pos (by omega),if_pos (by omega),if_neg (by omega),if_neg (by omega),if_pos (by omega),if_neg (by omega),rh i (by omega)];exact ih k (i+1) (by omega) (by omega)
theorem Fi{s:cU}(h:CL s=true):0≤s.f0∧s.f0≤65535:=by
 unfold CL at h;simp only[Bool.and_eq_true,decide_eq_true_eq] at h;exact h.1
theorem Ip{s:cU}(h:CL s=true)(hl:s.f1=true):0≤s.f3∧s.f3≤2048∧1≤s.f4∧s.f4≤2048:=by
 unfold CL at h;rw[if_pos hl] at h;simp only[Bool.and_eq_true,decide_eq_true_eq] at h;exact⟨h.2.1.1.1,h.2.1.1.2,h.2.1.2,h.2.2⟩
theorem Iq{s:cU}(h:CL s=true)(hl:s.f1=false):s.f2=false∧s.f3=0∧s.f4=0:=by
 unfold CL at h;rw[if_neg (by rw[hl];decide)] at h;simp only[Bool.and_eq_true,beq_iff_eq,Bool.not_eq_true'] at h;exact⟨h.2.1.1,h.2.1.2,h.2.2⟩
theorem zR{a1 a2:Int}{l6:List cU}{l7:List dJ}{l8:List (List Int)}(h:Hi a1 a2 l6 l7 l8)(j:Nat)(hj:j<l6.length):(dn l8 j).length≤2048:=by
 have h1:=h.rows j hj;have h2:=lR h.tab _ (List.getElem_mem hj);rw[ze l6 j hj] at h1;cases hl:l6[j].f1 with
 |true=>have:=Ip h2 hl;omega
 |false=>have:=Iq h2 hl;omega
theorem xZ(l:List cU)(j:Nat)(hj:j<l.length):rd (bg l) j=l[j].f0:=by
 unfold rd bg;rw[Int.toNat_natCast,List.getD_eq_getElem?_getD,List.getElem?_map,List.getElem?_eq_getElem hj];rfl
theorem nO(l:List cU)(j:Nat)(hj:j<l.length):(bg l).getD j 0=l[j].f0:=by
 have:=xZ l j hj;unfold rd at this
 rwa [Int.toNat_natCast] at this
theorem ya(l:List cU)(d:List (List Int))(j:Nat)(hj:j<l.length)(hd:j<d.length):dn (bT l d) j=if l[j].f1=true then dn d j else[]:=by
 unfold dn bT;rw[Int.toNat_natCast,List.getD_eq_getElem?_getD,List.getElem?_map,List.getElem?_range hj];simp only[Option.map_some,Option.getD_some];unfold ofRow;rw[ze l j hj];cases h:l[j].f1 with
 |true=>rw[if_pos ⟨rfl,hd⟩,if_pos rfl]
 |false=>rw[if_neg (fun h=>by cases h.1),if_neg (by decide)]
theorem Ir(l:List cU)(d:List (List Int))(j:Nat)(hj:j<l.length)(hd:j<d.length):(bT l d).getD j []=if l[j].f1=true then dn d j else[]:=by
 have:=ya l d j hj hd;unfold dn at this⊢
 rwa [Int.toNat_natCast] at this⊢
theorem ME(k:Nat)(hk:2000≤k){a0 a1 a2 a3 a4 a5:Int}{l6:List cU}{l7:List dJ}{l8:List (List Int)}(BV:l7.length≤1000)(h:oc a0 a1 a2 a3 a4 a5 l6 l7 l8):xX k a0 a1 a2 a3 a4 a5 l6 l7 l8:=by
 have hR:=h.rows;have hlen:=iu hR.tab;have h8:=hR.len8
 have PF:∀j:Nat,j<(bT l6 l8).length→(dn (bT l6 l8) j).length≤2048:=fun j hj=>by
  rw[fq] at hj;rw[ya l6 l8 j hj (by omega)];split
  ·exact zR hR j hj
  ·simp
 have Qa:∀j:Nat,j<(bg l6).length→0≤rd (bg l6) j∧rd (bg l6) j≤65535:=fun j hj=>by
  rw[cQ] at hj;rw[xZ l6 j hj];exact Fi (lR hR.tab _ (List.getElem_mem hj))
 refine⟨?_,by omega,by omega,h8,?_,fun i=>?_,?_,?_,?_⟩
 ·obtain⟨b,h1,h2⟩:=wE k a0 a1 a2 a3 a4 a5 l6 l7 l8 (by omega) BV (by omega);rw[h1,h2.2 h]
 ·unfold jh.f;rw[if_pos (by omega)]
 ·by_cases hi:i<l6.length
  ·have:=zR hR i hi;unfold dn at this;rw[Int.toNat_natCast] at this;exact KC _ (by omega)
  ·rw[List.getD_eq_getElem?_getD,List.getElem?_eq_none (by omega)];rfl
 ·unfold ch.f;rw[if_pos (by rw[cQ,fq]),cQ,if_neg (by omega),if_neg (by omega)];obtain⟨k,rfl⟩:∃m,k=m+1:=⟨k-1,by omega⟩;simp only[ch.j0]
  have he:¬(((l6.length:Int)%2 !=0)=true):=by
   have:=hR.tab;unfold lH Nf at this;simp only[Bool.and_eq_true,decide_eq_true_eq] at this;simp [this.2.2]
  rw[if_neg he];have:=Io (bg l6) l7 (bT l6 l8) (by rw[cQ,fq]) (by rw[cQ];omega) (by omega) Qa PF hR.roots (bg l6).length k 0 (by omega) (by rw[cQ];omega)
  rwa [show((0:Nat):Int)=0 from rfl] at this
 ·unfold bh.f oN.f dr.f jh.f;rw[if_pos (by rw[cQ];omega),Option.bind_some,if_pos (by rw[fq];omega),Option.bind_some,if_pos (by omega),Option.bind_some];have:=Oh (bg l6) l7 (bT l6 l8) (by rw[fq];omega) (fun j hj=>by have:=PF j hj;omega) (bT l6 l8).length k 0 (by omega) (by rw[fq];omega)
  rwa [show((0:Nat):Int)=0 from rfl] at this
 ·unfold bS.f rA.f dr.f jh.f;rw[if_pos (by omega),Option.bind_some,if_pos (by omega),Option.bind_some,if_pos (by omega),Option.bind_some];have:=Oi a0 a1 a2 a3 a4 a5 l6 l7 l8 (by omega) (fun j hj=>by have:=zR hR j (by omega);omega) l8.length k 0 (by omega) (by omega)
  rwa [show((0:Nat):Int)=0 from rfl] at this
theorem Rz(sz a0 a1 a2 a3 a4 a5:Int)(l6:List cU)(l7:List dJ)(l8:List (List Int))(T:List S64)(hT:T.length≤1000)(he:eX (wrap64 (a5*32)) (wrap64 (a0*32)))(r:List eE)(hw:bz (wrap64 (a0*32)) [] (wrap64 (a5*32)) (T.map ob)=some r)(hr:r.length≤2000):∀(d k i:Nat),i+d=T.length→d+2100<k→fN.l0 k sz ((T.take i).map ob) T (T.length:Int) i a0 a1 a2 a3 a4 a5 l6 l7 l8=some ((o7 (r.foldl (gI sz) none)).1,(o7 (r.foldl (gI sz) none)).2.2):=by
 intro d
 induction d with
 |zero=>
  intro k i hi hk;obtain⟨k,rfl⟩:∃m,k=m+1:=⟨k-1,by omega⟩;simp only[fN.l0];rw[if_neg (by omega),List.take_of_length_le (by omega)];unfold mJ.f;rw[if_pos he,hw,Option.bind_some];simp only;rw[TT r sz (by omega) k (by omega),Option.bind_some]
 |succ d ih=>
  intro k i hi hk;obtain⟨k,rfl⟩:∃m,k=m+1:=⟨k-1,by omega⟩;simp only[fN.l0];rw[if_pos (by omega),if_pos (by omega),if_pos (by omega),if_pos (by rw[List.length_map,List.length_take];omega),ad9 T i (by omega),Hj (show i<T.length by omega),rh i (by omega)];exact ih k (i+1) (by omega) (by omega)
theorem RB(tt:Int):∀(l acc:List eE)(a:Int)(r:List eE),bz tt acc a l=some r→r.length≤acc.length+l.length+1:=by
 intro l
 induction l with
 |nil=>
  intro acc a r h;simp only[bz,Option.some.injEq] at h;subst h;have:=mI acc a tt;simp only[List.length_nil];omega
 |cons s l ih=>
  intro acc a r h;simp only[bz] at h;split at h
  ·have:=ih _ _ _ h;have:=mI acc a s.f0;simp only[List.length_cons];omega
  ·cases h
theorem KD{l:List cU}(h:l.length≤32):(Ay.sorted (dE 0 l)).length≤32:=by
 have:=(qc (dE 0 l) (by have:=gS l 0;omega)).1.length_eq;have:=gS l 0;omega
theorem abb(k:Nat)(hk:2500≤k){a0 a1 a2 a3 a4 a5:Int}{l6:List cU}{l7:List dJ}{l8:List (List Int)}(h:oc a0 a1 a2 a3 a4 a5 l6 l7 l8)(n:Int)(kN:1≤n)(mD:n≤2048)(r:List eE)(hw:bz (wrap64 (a0*32)) [] (wrap64 (a5*32)) (mi l6)=some r):
 fN.f k a0 a1 a2 a3 a4 a5 l6 l7 l8 n=some ((o7 (r.foldl (gI (oa n)) none)).1,(o7 (r.foldl (gI (oa n)) none)).2.2):=by
 have hlen:=iu h.rows.tab;have hs:=KD (l:=l6) (by omega);obtain⟨e,he,he0⟩:=Mg n
 have hr:r.length≤2000:=by
  have:=RB _ _ _ _ _ hw;unfold mi at this;rw[List.length_map] at this;simp only[List.length_nil] at this;omega
 unfold fN.f;rw[he,Option.bind_some];simp only;rw[if_pos (he0 kN mD),Mh k a0 a1 a2 a3 a4 a5 l6 l7 l8 (by omega) (by omega),Option.bind_some];have:=Rz (oa n) a0 a1 a2 a3 a4 a5 l6 l7 l8 (Ay.sorted (dE 0 l6)) (by omega) h.Hk r hw hr _ k 0 (Nat.zero_add _) (by omega)
 rwa [show((0:Nat):Int)=0 from rfl] at this
theorem abc(k:Nat)(hk:100≤k){a0 a1 a2 a3 a4 a5:Int}{l6:List cU}{l7:List dJ}{l8:List (List Int)}(h:oc a0 a1 a2 a3 a4 a5 l6 l7 l8)(n:Int)(st:List Int×List Nat)(Ca:laid a5 (fT l6)=some st):
 kJ.f k a0 a1 a2 a3 a4 a5 l6 l7 l8 true n=some (Pure.placeOf st.1 st.2 n):=by
 have hlen:=iu h.rows.tab;obtain⟨r,hr⟩:=Mf k a0 a1 a2 a3 a4 a5 l6 l7 l8 (by omega) (by omega);unfold kJ.f;rw[if_pos rfl,hr,Option.bind_some];simp only;rw[Pure.Qm (Hl h.rows.tab) (by omega),Ca,Option.bind_some]
def Fits(a0 a5:Int)(l6:List cU)(n:Int)(two:Bool)(at_:Int):Prop:=
 if two=true then Pure.Valid a5 ⟨at_,n⟩∧(laid a5 (fT l6++[⟨at_,n⟩])).isSome=true
 else∃r g,bz (wrap64 (a0*32)) [] (wrap64 (a5*32)) (mi l6)=some r∧g∈r∧oa n≤g.f1∧g.f0=at_
theorem MF(k:Nat)(hk:2500≤k){a0 a1 a2 a3 a4 a5:Int}{l6:List cU}{l7:List dJ}{l8:List (List Int)}(BV:l7.length≤1000)(h:oc a0 a1 a2 a3 a4 a5 l6 l7 l8)(n:Int)(kN:1≤n)(mD:n≤2048)(two:Bool):
 ∃at_ is,jK.f k a0 a1 a2 a3 a4 a5 l6 l7 l8 two n=some (at_,is)∧(is=true→Fits a0 a5 l6 n two at_):=by
 have hlen:=iu h.rows.tab;unfold jK.f;obtain⟨b,h1,h2⟩:=wE k a0 a1 a2 a3 a4 a5 l6 l7 l8 (by omega) BV (by omega);rw[h1,h2.2 h,Option.bind_some,if_pos rfl];unfold fE.f;rw[if_pos kN,Option.bind_some,if_pos (decide_eq_true mD)];unfold Fits;cases two with
 |true=>
  obtain⟨st,Ca⟩:=Option.isSome_iff_exists.1 h.laid;rw[abc k (by omega) h n st Ca,Option.bind_some];refine⟨_,_,rfl,fun his=>?_⟩;rw[if_pos rfl];have h0:=Pure.nL Ca;obtain⟨m,rfl⟩:∃m:Nat,a5=m:=⟨a5.toNat,by omega⟩;obtain⟨g1,st2,g2,_⟩:=Pure.J7 (n:=m) (by omega) (by omega) (ks:=st.1) (cs:=st.2) (size:=n) (at_:=(Pure.placeOf st.1 st.2 n).1) (by rw[←his]);refine⟨g1,?_⟩;rw[Pure.xR,Ca,Option.bind_some];simp only;rw[if_pos g1,g2];rfl
 |false=>
  obtain⟨r,hw⟩:=Option.isSome_iff_exists.1 h.walk;unfold kJ.f;rw[if_neg (by decide),abb k hk h n kN mD r hw,Option.bind_some,Option.bind_some];refine⟨_,_,rfl,fun his=>?_⟩;rw[if_neg (by decide)];cases hf:r.foldl (gI (oa n)) none with
  |none=>rw[hf] at his;cases his
  |some g=>
   rcases Gq (oa n) r none g hf with h3|⟨h3,h4⟩
   ·cases h3
   ·exact⟨r,g,hw,h3,h4,by simp [o7]⟩
theorem RC{n a len:Int}(hn:n≤64)(h:(dK n a len).2.2.2.2.2=true):0≤a∧a≤2048:=by
 unfold dK at h
 by_cases c0:a<0
 ·rw[if_pos c0] at h;cases h
 ·rw[if_neg c0] at h;split at h
  ·split at h
   ·simp only[decide_eq_true_eq] at h;omega
   ·cases h
  ·split at h
   ·simp only[decide_eq_true_eq] at h;omega
   ·cases h
theorem rG{α:Type}(l:List α)(t:Nat)(x:α)(ht:t<l.length):l.set t x=l.take t++x::l.drop (t+1):=by
 rw[List.set_eq_take_append_cons_drop,if_pos ht]
theorem BB{α:Type}(l:List α)(t:Nat)(ht:t<l.length):l=l.take t++l[t]::l.drop (t+1):=by
 conv=>lhs;rw[←List.take_append_drop t l]
 rw[List.drop_eq_getElem_cons ht]
theorem C4(l:List (List Int))(t j:Nat)(r:List Int)(ht:t<l.length):dn (l.set t r) j=if j=t then r else dn l j:=by
 unfold dn;rw[Int.toNat_natCast,List.getD_eq_getElem?_getD,List.getD_eq_getElem?_getD]
 by_cases h:j=t
 ·subst h;rw[if_pos rfl,List.getElem?_set_self ht];rfl
 ·rw[if_neg h,List.getElem?_set_ne (fun e=>h e.symm)]
theorem KE(l:List cU)(t j:Nat)(r:cU)(ht:t<l.length):aM (l.set t r) j=if j=t then r else aM l j:=by
 unfold aM;rw[Int.toNat_natCast,List.getD_eq_getElem?_getD,List.getD_eq_getElem?_getD]
 by_cases h:j=t
 ·subst h;rw[if_pos rfl,List.getElem?_set_self ht];rfl
 ·rw[if_neg h,List.getElem?_set_ne (fun e=>h e.symm)]
theorem KG{l:List cU}(h:lH l=true)(t:Nat)(x:cU)(hx:CL x=true):lH (l.set t x)=true:=by
 have jo:=lR h;unfold lH at h⊢;rw[Bool.and_eq_true] at h⊢;rw[List.length_set];refine⟨?_,h.2⟩;rw[List.all_eq_true];intro s hs;rcases List.mem_or_eq_of_mem_set hs with hs|rfl
 ·exact jo s hs
 ·exact hx
theorem yb{l:List cU}{t:Nat}(ht:t<l.length)(hf:l[t].f1=false):fT l=fT (l.take t)++fT (l.drop (t+1)):=by
 conv=>lhs;rw[BB l t ht]
 rw[lA];simp only[fT];rw[if_neg (by rw[hf];simp)]
theorem yc{l:List cU}{t:Nat}(ht:t<l.length)(hf:l[t].f1=false):dE 0 l=dE 0 (l.take t)++dE (t+1) (l.drop (t+1)):=by
 conv=>lhs;rw[BB l t ht]
 rw[jT];simp only[dE];rw[if_neg (by rw[hf];simp),List.length_take,Nat.min_eq_left (by omega),Nat.zero_add]
theorem Oj{α β:Type}{f:α→β}{l:List α}{a b:List β}(h:l.map f=a++b):∃a' b',l=a'++b'∧a'.map f=a∧b'.map f=b:=List.map_eq_append_iff.1 h
theorem Is{a0 a5 n at_ gen:Int}{l:List cU}{t:Nat}(hl:l.length≤32)(ht:t<l.length)(hf:l[t].f1=false)(kN:1≤n)(mD:n≤2048)(he:eX (wrap64 (a5*32)) (wrap64 (a0*32)))(hF:Fits a0 a5 l n false at_):
 (0≤at_∧at_≤2048)∧(bz (wrap64 (a0*32)) [] (wrap64 (a5*32)) (mi (l.set t ⟨gen,true,false,at_,n⟩))).isSome=true:=by
 unfold Fits at hF;rw[if_neg (by decide)] at hF;obtain⟨r,g,hw,hg,hle,rfl⟩:=hF;obtain⟨h4,h5⟩:=UO n kN mD;obtain⟨b1,b2,L1,L2,hL,anh⟩:=JL _ _ he _ r hw g hg (oa n) h4 h5 hle;refine⟨⟨b1,b2⟩,?_⟩;obtain⟨r2,zc⟩:=Option.isSome_iff_exists.1 anh;have RD:=CF _ _ _ _ _ zc;have abd:=CF _ _ _ _ _ hw;rw[List.pairwise_append,List.pairwise_cons] at RD;obtain⟨B1,B2,hB,hB1,hB2⟩:=Oj (show(Ay.sorted (dE 0 l)).map ob=L1++L2 from hL)
 have hp:(dE 0 (l.set t ⟨gen,true,false,g.f0,n⟩)).Perm (⟨g.f0,oa n,(t:Int)⟩::dE 0 l):=by
  rw[rG l t _ ht,jT];simp only[dE];rw[if_pos (by simp),yc ht hf,List.length_take,Nat.min_eq_left (by omega),Nat.zero_add];exact List.perm_middle
 have hs:=Cj (b:=⟨g.f0,oa n,(t:Int)⟩) hp (by have:=gS l 0;omega) hB
  (fun x hx=>by
   have:=RD.2.2 (ob x) (by rw[←hB1];exact List.mem_map_of_mem hx) ⟨g.f0,oa n⟩ List.mem_cons_self;exact this)
  (fun x hx=>by
   have:=RD.2.1.1 (ob x) (by rw[←hB2];exact List.mem_map_of_mem hx);exact this)
  (by
   have:((Ay.sorted (dE 0 l)).map ob).Pairwise (fun x y=>x.f0<y.f0):=abd;rw[List.pairwise_map] at this;exact this)
 have hu:mi (l.set t ⟨gen,true,false,g.f0,n⟩)=L1++⟨g.f0,oa n⟩::L2:=by
  unfold mi;rw[hs,List.map_append,List.map_cons,hB1,hB2];rfl
 rw[hu,zc];rfl
theorem C5{a0 a1 a2 a3 a4 a5:Int}{l6:List cU}{l7:List dJ}{l8:List (List Int)}(h:oc a0 a1 a2 a3 a4 a5 l6 l7 l8)(n:Int)(kN:1≤n)(mD:n≤2048)(t:Nat)(ht:t<l6.length)(hf:l6[t].f1=false)(two:Bool)(at_:Int)(hF:Fits a0 a5 l6 n two at_)(hm:two∈gO a4):
 CL ⟨l6[t].f0,true,two,at_,n⟩=true∧oc a0 a1 a2 a3 a4 a5 (l6.set t ⟨l6[t].f0,true,two,at_,n⟩) l7 (l8.set t (List.replicate n.toNat 0)):=by
 have hlen:=iu h.rows.tab;have h8:=h.rows.len8;have hg:=Fi (lR h.rows.tab _ (List.getElem_mem ht))
 have dH:0≤at_∧at_≤2048:=by
  cases two with
  |true=>
   unfold Fits at hF;rw[if_pos rfl] at hF;obtain⟨st,Ca⟩:=Option.isSome_iff_exists.1 h.laid;have h0:=Pure.nL Ca;exact RC h0.2.1 hF.1
  |false=>exact(Is (gen:=0) (by omega) ht hf kN mD h.Hk hF).1
 have jo:CL ⟨l6[t].f0,true,two,at_,n⟩=true:=by
  unfold CL;simp only[if_true,Bool.and_eq_true,decide_eq_true_eq];exact⟨hg,⟨⟨dH,kN⟩,mD⟩⟩
 have GO:Hi a1 a2 (l6.set t ⟨l6[t].f0,true,two,at_,n⟩) l7 (l8.set t (List.replicate n.toNat 0)):=by
  refine⟨by rw[List.length_set];exact h.rows.ae3,h.rows.ae4,by rw[List.length_set,List.length_set];exact h8,KG h.rows.tab t _ jo,h.rows.roots,fun j hj=>?_⟩;rw[List.length_set] at hj;rw[C4 l8 t j _ (by omega),KE l6 t j _ ht]
  by_cases e:j=t
  ·rw[if_pos e,if_pos e,List.length_replicate];show((n.toNat:Nat):Int)=n;omega
  ·rw[if_neg e,if_neg e];exact h.rows.rows j hj
 refine⟨jo,h.sup,GO,?_,h.Hk,?_,?_⟩
 ·rw[rG l6 t _ ht,lA];simp only[fT];cases two with
  |true=>
   rw[if_pos (by simp)];unfold Fits at hF;rw[if_pos rfl,yb ht hf] at hF;exact Pure.GS _ _ _ _ hF.2
  |false=>
   rw[if_neg (by simp),←yb ht hf];exact h.laid
 ·cases two with
  |true=>
   have hu:mi (l6.set t ⟨l6[t].f0,true,true,at_,n⟩)=mi l6:=by
    unfold mi;rw[rG l6 t _ ht,jT];simp only[dE];rw[if_neg (by simp),List.length_take,Nat.min_eq_left (by omega),Nat.zero_add,←yc ht hf]
   rw[hu];exact h.walk
  |false=>exact(Is (by omega) ht hf kN mD h.Hk hF).2
 ·have hmo:=h.mode
  by_cases e1:a4=1
  ·rw[if_pos e1] at hmo⊢;unfold gO at hm;rw[if_pos e1] at hm;obtain rfl:=List.mem_singleton.1 hm;rw[rG l6 t _ ht,lA];simp only[fT];rw[if_neg (by simp),←yb ht hf];exact hmo
  ·rw[if_neg e1] at hmo⊢
   by_cases e2:a4=2
   ·rw[if_pos e2] at hmo⊢;unfold gO at hm;rw[if_neg e1,if_pos e2] at hm;obtain rfl:=List.mem_singleton.1 hm
    have hu:mi (l6.set t ⟨l6[t].f0,true,true,at_,n⟩)=mi l6:=by
     unfold mi;rw[rG l6 t _ ht,jT];simp only[dE];rw[if_neg (by simp),List.length_take,Nat.min_eq_left (by omega),Nat.zero_add,←yc ht hf]
    rw[hu];exact hmo
   ·rw[if_neg e2];trivial
end Go.Proofs.YtmhdcgmfbjcndaaGreatDoor.Pl
