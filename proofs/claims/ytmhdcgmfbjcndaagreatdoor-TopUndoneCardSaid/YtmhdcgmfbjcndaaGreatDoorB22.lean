import Derived.Test.YtmhdcgmfbjcndaaGreatDoorB21
set_option linter.unusedVariables false
set_option linter.unusedSimpArgs false
set_option maxRecDepth 100000
set_option maxHeartbeats 8000000
namespace Go.Proofs.YtmhdcgmfbjcndaaGreatDoor.P
open Go.RowKit Go.Proofs.aa.ag Go.Proofs.aa.ao Go.Proofs.aa.ay
def nK{β:Type}(f:Nat→Option β):Nat→Nat→Option β
 |0,_=>none
 |d+1,i=>match f i with|some b=>some b|none=>nK f d (i+1)
theorem xO{β:Type}(f:Nat→Option β):∀(j d i:Nat),(∀q,i≤q→q<i+j→f q=none)→nK f (j+d) i=nK f d (i+j)
 |0,d,i,_=>by rw[Nat.zero_add];rfl
 |j+1,d,i,h=>by
  rw[Nat.add_right_comm];simp only[nK];rw[h i (Nat.le_refl _) (by omega)];simp only;rw[xO f j d (i+1) (fun q h1 h2=>h q (by omega) (by omega))]
  congr 1
  omega
def first{β:Type}(f:Nat→Option β)(n:Nat):Option β:=nK f n 0
theorem xP{β:Type}{f:Nat→Option β}{n p:Nat}{b:β}(hp:p<n)(hb:f p=some b)(h:∀q,q<p→f q=none):first f n=some b:=by
 unfold first
 obtain⟨d,rfl⟩:∃d,n=p+(d+1):=⟨n-p-1,by omega⟩;rw[xO f p (d+1) 0 (fun q _ h2=>h q (by omega)),Nat.zero_add];simp only[nK,hb]
theorem uT{β:Type}{f:Nat→Option β}{n:Nat}(h:∀q,q<n→f q=none):first f n=none:=by
 unfold first
 have:=xO f n 0 0 (fun q _ h2=>h q (by omega));rw[Nat.add_zero] at this;rw[this];rfl
def zF(c M:Nat):Option Nat:=first (fun k=>if c.testBit k=true then none else some k) M
def sj(ks:List Int)(cs:List Nat)(cl:Int)(M p:Nat):Option (Nat×Nat):=if ks.getD p 0=cl then(zF (cs.getD p 0) M).map fun k=>(p,k) else none
def tm(ks:List Int)(p:Nat):Option Nat:=if ks.getD p 0= -1 then some p else none
def qm(ks:List Int)(cs:List Nat)(cl:Int):Int×Bool:=
 match first (sj ks cs cl (28/dB cl).toNat) ks.length with
 |some (p,k)=>((p:Int)*32+(4+(k:Int)*dB cl),true)
 |none=>match first (tm ks) ks.length with
  |some p=>((p:Int)*32+4,true)
  |none=>(0,false)
theorem Qf(c k:Nat)(hc:c<18446744073709551616):(bits .and .u64 ((c:Int)/2^k) 1==0)= !c.testBit k:=by
 have h1:((c:Int)/2^k)=((c/2^k:Nat):Int):=by
  rw[Int.natCast_ediv,Int.natCast_pow];rfl
 have h2:=bits_and_u64_nat (c/2^k) 1 (Nat.lt_of_le_of_lt (Nat.div_le_self _ _) hc) (by decide);rw[h1,show(1:Int)=((1:Nat):Int) from rfl,h2]
 have h3:c.testBit k=((c/2^k&&&1) !=0):=by
  unfold Nat.testBit;rw[Nat.shiftRight_eq_div_pow,Nat.and_comm]
 rw[h3];cases h4:((c/2^k&&&1) !=0)
 ·have:(c/2^k&&&1)=0:=by simpa using h4
  rw[this];rfl
 ·have:(c/2^k&&&1)≠0:=by simpa using h4
  rw[Bool.not_true,beq_eq_false_iff_ne];omega
theorem Nx(gy gk:Nat)(ks:List Int)(cs:List Nat)(cl:Int)(w:World)(h:Lay w gy gk ks cs)(oK:0≤cl)(Qg:cl<6):
 Calls Tryz.prog 202 #[.pointer (some ⟨gy,0,none⟩),.int .i64 cl] w fun e w'=>e= .returned (.tuple #[.int .i64 (qm ks cs cl).1,.bool (qm ks cs cl).2])∧Below w.heap.size w w':=by
 have HL:=ak h;have hw:=sg oK Qg;have hlk:=h.lk;obtain⟨M,hM⟩:∃M:Nat,28/dB cl=(M:Int):=⟨(28/dB cl).toNat,by have:0≤28/dB cl:=Int.ediv_nonneg (by omega) (by omega);omega⟩
 have hM2:M≤14:=by
  have:28/dB cl≤14:=Int.ediv_le_of_le_mul (by omega) (by omega);omega
 have HCE:=ak (show dU.f cl=some ((M:Int),0) by unfold dU.f;rw[if_pos ⟨oK,Qg⟩];unfold dB at hM;rw[hM]);have GI:ae (∀R,(match first (sj ks cs cl M) ks.length with|some (p,k)=>((p:Int)*32+(4+(k:Int)*dB cl),true)|none=>match first (tm ks) ks.length with|some p=>((p:Int)*32+4,true)|none=>((0:Int),false))=R→qm ks cs cl=R):=⟨fun R hR=>by unfold qm;rw[hM,Int.toNat_natCast];exact hR⟩;have HCL:ae (∀k:Nat,k<M→mM.f cl k=some (4+(k:Int)*dB cl,0)):=⟨fun k hk=>by unfold mM.f;unfold dB at hM⊢;rw[if_pos ⟨⟨oK,Qg⟩,by omega,by omega⟩]⟩;generalize dB cl=ww at GI HCL hw hM;clear h hM;generalize qm ks cs cl=RR at GI⊢;go_enter Tryz.func202,Tryz.ntmps202
 go_wp2_with(go_at_call 116;refine(dU.calls cl _ _ _ HCE.1).mono ?_;rintro e w2 ⟨rfl,hb⟩;have h0:=(HL.1.below hb).head;have HB:=ak hb;clear hb)
 have ZS:=ak (HL.1.below HB.1);clear h0
 go_loopw [25] (fun v25 wr=>∃p:Nat,v25= .int .i64 p∧p≤ks.length∧ae (∀q,q<p→sj ks cs cl M q=none)∧w2=wr) (fun v25 _=>ks.length-(intOf v25).toNat)
 case atStart=>exact⟨0,rfl,Nat.zero_le _,⟨fun q hq=>by omega⟩,rfl⟩
 case round=>
  obtain⟨p,rfl,hp,HN,rfl⟩:=hrel
  by_cases cX:p<ks.length
  ·have h1:=ZS.1.kind p cX;have iJ:=ZS.1.cell p (by omega);have h0:=ZS.1.head;generalize hc:cs.getD p 0=c at iJ;generalize hkk:ks.getD p 0=kk at h1;have HC:=ak hc;have HKK:=ak hkk;clear hc hkk
   by_cases hk:kk=cl
   ·subst hk;have e1:(kk==kk)=true:=beq_self_eq_true _;go_wp2
    go_loopw [31] (fun v31 wr=>∃k:Nat,v31= .int .i64 k∧k≤M∧ae (∀j,j<k→c.testBit j=true)∧w2=wr) (fun v31 _=>M-(intOf v31).toNat)
    case atStart=>exact⟨0,rfl,Nat.zero_le _,⟨fun q hq=>by omega⟩,rfl⟩
    case round=>
     obtain⟨k,rfl,hk2,HT,rfl⟩:=hrel
     by_cases hkl:k<M
     ·have b0:(0:Int)≤(k:Int):=by omega
      have b1:(k:Int)<64:=by omega
      have htb:=Qf c k (by
       rw[←HC.1,List.getD_eq_getElem?_getD,List.getElem?_eq_getElem (by rw[ZS.1.lc];omega)];exact ZS.1.bd _ (List.getElem_mem _))
      cases xQ:c.testBit k with
      |true=>
       rw[xQ,Bool.not_true] at htb;have kC:=ak xQ;clear xQ;go_wp2
       go_roundw
       case rel=>
        refine⟨k+1,by go_num,hkl,⟨fun j hj=>?_⟩,trivial⟩
        by_cases e:j=k
        ·rw[e];exact kC.1
        ·exact HT.1 j (by omega)
       case measure=>simp [intOf];omega
      |false=>
       rw[xQ,Bool.not_false] at htb;have hfb:zF c M=some k:=xP (f:=fun k=>if c.testBit k=true then none else some k) hkl (by simp [xQ]) (fun q hq=>if_pos (HT.1 q hq));have Ui:=ak (GI.1 ((p:Int)*32+(4+(k:Int)*ww),true) (by rw[xP cX (b:=(p,k)) (by unfold sj;rw[HC.1,HKK.1,if_pos rfl,hfb];rfl) HN.1]));have HCA:=ak (HCL.1 k hkl);have hkw:0≤(k:Int)*ww∧(k:Int)*ww≤14*15:=⟨Int.mul_nonneg (by omega) (by omega),Int.mul_le_mul (by omega) (by omega) (by omega) (by omega)⟩;generalize(k:Int)*ww=kw at Ui HCA hkw;clear xQ hfb
       go_wp2_with(go_at_call 117;refine(mM.calls kk k _ _ _ HCA.1).mono ?_;rintro e w3 ⟨rfl,hb⟩;have GJ:=ak hb;clear hb)
       go_ret2;rw[Ui.1];exact⟨rfl,bR HB.1 GJ.1⟩
     ·have HF:=ak (show zF c M=none from uT fun q hq=>if_pos (HT.1 q (by omega)));go_wp2
      go_roundw
      case rel=>
       refine⟨p+1,by go_num,cX,⟨fun q hq=>?_⟩,trivial⟩
       by_cases e:q=p
       ·rw[e];unfold sj;rw[HC.1,HF.1];split<;>rfl
       ·exact HN.1 q (by omega)
      case measure=>simp [intOf];omega
   ·have e1:(kk==cl)=false:=beq_eq_false_iff_ne.2 hk;have HK:=ak hk;clear hk;go_wp2
    go_loopw [31] (fun v31 wr=>∃k:Nat,v31= .int .i64 k∧k≤M∧w2=wr) (fun v31 _=>M-(intOf v31).toNat)
    case atStart=>exact⟨0,rfl,Nat.zero_le _,rfl⟩
    case round=>
     obtain⟨k,rfl,hk2,rfl⟩:=hrel
     by_cases hkl:k<M
     ·go_wp2
      go_roundw
      case rel=>exact⟨k+1,by go_num,hkl,trivial⟩
      case measure=>simp [intOf];omega
     ·go_wp2
      go_roundw
      case rel=>
       refine⟨p+1,by go_num,cX,⟨fun q hq=>?_⟩,trivial⟩
       by_cases e:q=p
       ·rw[e];unfold sj;rw[HKK.1,if_neg HK.1]
       ·exact HN.1 q (by omega)
      case measure=>simp [intOf];omega
  ·have HN2:=ak (show first (sj ks cs cl M) ks.length=none from uT fun q hq=>HN.1 q (by omega));have h0:=ZS.1.head;clear HN;go_wp2;clear h0
   go_loopw [66] (fun v66 wr=>∃p:Nat,v66= .int .i64 p∧p≤ks.length∧ae (∀q,q<p→tm ks q=none)∧w2=wr) (fun v66 _=>ks.length-(intOf v66).toNat)
   case atStart=>exact⟨0,rfl,Nat.zero_le _,⟨fun q hq=>by omega⟩,rfl⟩
   case round=>
    obtain⟨p2,rfl,hp2,HP,rfl⟩:=hrel
    by_cases Pm:p2<ks.length
    ·have h1:=ZS.1.kind p2 Pm;generalize hkk:ks.getD p2 0=kk at h1;have HKK:=ak hkk;clear hkk
     by_cases hk:kk= -1
     ·subst hk;have Ui:=ak (GI.1 ((p2:Int)*32+4,true) (by rw[HN2.1,xP Pm (b:=p2) (by unfold tm;rw[HKK.1,if_pos rfl]) HP.1]));go_wp2;go_ret2;rw[Ui.1];exact⟨rfl,HB.1⟩
     ·have e1:(kk== -1)=false:=beq_eq_false_iff_ne.2 hk;have HK:=ak hk;clear hk;go_wp2
      go_roundw
      case rel=>
       refine⟨p2+1,by go_num,Pm,⟨fun q hq=>?_⟩,trivial⟩
       by_cases e:q=p2
       ·rw[e];unfold tm;rw[HKK.1,if_neg HK.1]
       ·exact HP.1 q (by omega)
      case measure=>simp [intOf];omega
    ·have Ui:=ak (GI.1 (0,false) (by rw[HN2.1,uT (f:=tm ks) fun q hq=>HP.1 q (by omega)]));go_wp2;go_ret2;rw[Ui.1];exact⟨rfl,HB.1⟩
end Go.Proofs.YtmhdcgmfbjcndaaGreatDoor.P
namespace Go.Proofs.YtmhdcgmfbjcndaaGreatDoor.P
open Go.RowKit Go.Shelf Go.Proofs.aa.ag Go.Proofs.aa.ao Go.Proofs.aa.ay
attribute [local go_sem] Oper.semAt_some
def OS(l:List fl):Bool:=decide (l.length≤8796093022208)&&l.all fun o=>decide (-9223372036854775808≤o.f0)&&decide (o.f0≤9223372036854775807)
theorem LM:∀{l:List fl},(∀o∈l,-9223372036854775808≤o.f0∧o.f0≤9223372036854775807)→∃xs:List Ck,xs.map (·.1)=l
 |[],_=>⟨[],rfl⟩
 |o::l,h=>by
  obtain⟨xs,hx⟩:=LM (l:=l) (fun x hx=>h x (List.mem_cons_of_mem _ hx));exact⟨⟨o,h o List.mem_cons_self⟩::xs,by rw[List.map_cons,hx]⟩
theorem ZT{l:List fl}(h:OS l=true):l.length≤8796093022208∧∃xs:List Ck,xs.map (·.1)=l:=by
 unfold OS at h;rw[Bool.and_eq_true,List.all_eq_true] at h;exact⟨of_decide_eq_true h.1,LM fun o ho=>by have:=h.2 o ho;simp only[Bool.and_eq_true,decide_eq_true_eq] at this;exact this⟩
theorem GM(n:Int)(A:Option Addr)(c:Nat)(l:List fl)(w:World)(hl:OS l=true)(hC:Kd.C uM w A l.length l):
 Calls Tryz.prog 46 #[.int .i64 n,.slice A l.length c] w fun e w'=>
  (laid n l=none∧e= .returned (.tuple #[.pointer none,.bool false])∧Below w.heap.size w w')∨
  ∃(gy gk:Nat)(st:List Int×List Nat),laid n l=some st∧e= .returned (.tuple #[.pointer (some ⟨gy,0,none⟩),.bool true])∧Lay w' gy gk st.1 st.2∧st.1.length=n.toNat∧w.heap.size≤gy∧w.heap.size≤gk∧Below w.heap.size w w':=by
 obtain⟨_,xs,rfl⟩:=ZT hl;rw[List.length_map] at hC⊢
 by_cases hn:0≤n∧n≤64
 ·obtain⟨N,rfl⟩:∃N:Nat,n=(N:Int):=⟨n.toNat,by omega⟩;rw[Int.toNat_natCast];exact xJ N A c xs w (by omega) hC
 ·refine(Qc n A xs.length c w (by omega)).mono fun e w' ⟨h1,h2⟩=> .inl ⟨?_,h1,h2⟩;unfold laid;rw[if_neg hn]
theorem Lay.row{W:World}{base gy gk:Nat}{ks:List Int}{cs:List Nat}(h:Lay W gy gk ks cs)(hb:base≤gk):Kd.R (Kd.int .i64) 3 W base (fun _=>True) (.slice (some ⟨gk,0,none⟩) ks.length ks.length) ks:=by
 refine Kd.Ae ⟨by rw[eY,Nat.mul_one],.inr ⟨gk,ks.length,_,rfl,hb,h.k,Nat.le_refl _,by have:=h.lk;unfold maxLen;omega,by rw[List.size_toArray,eY,Nat.mul_one],?_⟩⟩ (fun _ _=>trivial);rw[List.take_of_length_le (by show(kB (Value.int .i64) ks).length≤_;rw[eY];omega)]
def iU.f(n:Int)(l:List fl):Option (List Int×Bool):=
 if OS l=true then some (match laid n l with|some st=>(st.1,true)|none=>([],false)) else none
theorem iU.calls(a0:Int)(A1:Option Addr)(c1:Nat)(l1:List fl)(r1:List Int)(r2:Bool)(w:World)(sM:Kd.C uM w A1 l1.length l1)(tT:l1.length≤c1)(h:iU.f a0 l1=some (r1,r2)):
 Calls Tryz.prog 22 #[.int .i64 a0,.slice A1 l1.length c1] w fun e w'=>∃kT:Value,e= .returned (.tuple #[kT,.bool r2])∧Kd.R (Kd.int .i64) 3 w' w.heap.size (fun _=>True) kT r1∧Below w.heap.size w w':=by
 unfold iU.f at h
 by_cases hl:OS l1=true
 ·rw[if_pos hl] at h;have rk:=GM a0 A1 c1 l1 w hl sM;cases FP:laid a0 l1 with
  |none=>
   rw[FP] at h;obtain⟨rfl,rfl⟩:=Prod.mk.inj (Option.some.inj h)
   have tl:=ak (rk.mono (R':=fun e w'=>e= .returned (.tuple #[.pointer none,.bool false])∧Below w.heap.size w w') fun e w' hx=>by
    rcases hx with⟨_,h1,h2⟩|⟨_,_,_,h1,_⟩
    ·exact⟨h1,h2⟩
    ·rw[FP] at h1;cases h1)
   clear rk FP sM tT h hl;go_enter Tryz.func22,Tryz.ntmps22
   go_wp2_with(go_at_call 46;refine tl.1.mono ?_;rintro e w2 ⟨rfl,hb⟩)
   go_ret2;exact⟨_,rfl,Kd.lN _ _ _ _ _,hb⟩
  |some st=>
   rw[FP] at h;obtain⟨rfl,rfl⟩:=Prod.mk.inj (Option.some.inj h)
   have tl:=ak (rk.mono (R':=fun e w'=>∃gy gk,e= .returned (.tuple #[.pointer (some ⟨gy,0,none⟩),.bool true])∧Lay w' gy gk st.1 st.2∧w.heap.size≤gk∧Below w.heap.size w w') fun e w' hx=>by
    rcases hx with⟨h1,_⟩|⟨gy,gk,Ej,h1,h2,h3,h4,h5,h6,h7⟩
    ·rw[FP] at h1;cases h1
    ·rw[FP] at h1;obtain rfl:=Option.some.inj h1;exact⟨gy,gk,h2,h3,h6,h7⟩)
   clear rk FP sM tT h hl;go_enter Tryz.func22,Tryz.ntmps22
   go_wp2_with(go_at_call 46;refine tl.1.mono ?_;rintro e w2 ⟨gy,gk,rfl,hL,hk,hb⟩;have h0:=hL.head;have HL:=ak hL;have HB:=ak hb;have HK:=ak hk;clear hL hb hk)
   go_ret2;exact⟨_,rfl,HL.1.row HK.1,HB.1⟩
 ·rw[if_neg hl] at h;cases h
def kH.f(k:Nat)(n:Int)(l:List fl)(size:Int):Option (Int×Bool):=
 if OS l=true then
  (match laid n l with
   |none=>some (0,false)
   |some st=>if 1≤size∧size≤120 then some (qm st.1 st.2 (cG size))
    else(e9.f size).bind fun t=>if t.2=0 then(dN.f k st.1 t.1).bind fun b=>some (wrap64 (b.1*32),b.2) else some (0,false))
 else none
theorem kH.calls(k:Nat)(a0:Int)(A1:Option Addr)(c1:Nat)(l1:List fl)(a2 r1:Int)(r2:Bool)(w:World)(sM:Kd.C uM w A1 l1.length l1)(tT:l1.length≤c1)(h:kH.f k a0 l1 a2=some (r1,r2)):
 Calls Tryz.prog 197 #[.int .i64 a0,.slice A1 l1.length c1,.int .i64 a2] w fun e w'=>e= .returned (.tuple #[.int .i64 r1,.bool r2])∧Below w.heap.size w w':=by
 unfold kH.f at h
 by_cases hl:OS l1=true
 ·rw[if_pos hl] at h;have rk:=GM a0 A1 c1 l1 w hl sM;cases FP:laid a0 l1 with
  |none=>
   rw[FP] at h;obtain⟨rfl,rfl⟩:=Prod.mk.inj (Option.some.inj h)
   have tl:=ak (rk.mono (R':=fun e w'=>e= .returned (.tuple #[.pointer none,.bool false])∧Below w.heap.size w w') fun e w' hx=>by
    rcases hx with⟨_,h1,h2⟩|⟨_,_,_,h1,_⟩
    ·exact⟨h1,h2⟩
    ·rw[FP] at h1;cases h1)
   clear rk FP sM tT h hl;go_enter Tryz.func197,Tryz.ntmps197
   go_wp2_with(go_at_call 46;refine tl.1.mono ?_;rintro e w2 ⟨rfl,hb⟩)
   go_ret2;exact⟨rfl,hb⟩
  |some st=>
   rw[FP] at h;simp only at h
   have tl:=ak (rk.mono (R':=fun e w'=>∃gy gk,e= .returned (.tuple #[.pointer (some ⟨gy,0,none⟩),.bool true])∧Lay w' gy gk st.1 st.2∧w.heap.size≤gk∧Below w.heap.size w w') fun e w' hx=>by
    rcases hx with⟨h1,_⟩|⟨gy,gk,Ej,h1,h2,h3,h4,h5,h6,h7⟩
    ·rw[FP] at h1;cases h1
    ·rw[FP] at h1;obtain rfl:=Option.some.inj h1;exact⟨gy,gk,h2,h3,h6,h7⟩)
   clear rk FP sM tT hl;obtain⟨ks,cs⟩:=st;simp only at h tl
   by_cases hs:1≤a2∧a2≤120
   ·rw[if_pos hs] at h;have oK:=jt a2;have OT:=ak (show iv.f a2=some (cG a2,true) by unfold iv.f;rw[if_pos hs]);have GI:=ak (Option.some.inj h);generalize cG a2=cl at oK OT GI;obtain⟨alz,Qg⟩:=oK;clear h hs;go_enter Tryz.func197,Tryz.ntmps197
    go_wp2_with(first|(go_at_call 46;refine tl.1.mono ?_;rintro e w2 ⟨gy,gk,rfl,hL,hk,hb⟩;have HL:=ak hL;have HB:=ak hb;clear hL hb hk)|(go_at_call 166;refine(iv.calls a2 cl true _ OT.1).mono ?_;rintro e w3 ⟨rfl,hb⟩;have HL3:=ak (HL.1.below hb);have GJ:=sb HB hb;clear hb)|(go_at_call 202;refine(Nx _ _ ks cs cl _ HL3.1 alz Qg).mono ?_;rintro e w4 ⟨rfl,hb⟩;have SU:=sb GJ hb;clear hb))
    go_ret2;rw[GI.1];exact⟨rfl,SU.1⟩
   ·rw[if_neg hs] at h;have OT:=ak (show iv.f a2=some (0,false) by unfold iv.f;rw[if_neg hs]);clear hs;cases hp:e9.f a2 with
    |none=>rw[hp] at h;cases h
    |some t=>
     rw[hp] at h;obtain⟨oa,err⟩:=t;simp only[Option.bind_some] at h;have HP:=ak hp;clear hp
     by_cases ht:err=0
     ·rw[if_pos ht] at h;subst ht;cases hb:dN.f k ks oa with
      |none=>rw[hb] at h;cases h
      |some b=>
       rw[hb] at h;obtain⟨b1,b2⟩:=b;simp only[Option.bind_some,Option.some.injEq,Prod.mk.injEq] at h;have Qi:=ak h.1;obtain rfl:=h.2;have HBE:=ak hb;clear h hb;go_enter Tryz.func197,Tryz.ntmps197
       go_wp2_with(first|(go_at_call 46;refine tl.1.mono ?_;rintro e w2 ⟨gy,gk,rfl,hL,hk,hb⟩;have HL:=ak hL;have HB:=ak hb;have HK:=ak hk;clear hL hb hk)|(go_at_call 166;refine(iv.calls a2 0 false _ OT.1).mono ?_;rintro e w3 ⟨rfl,hb⟩;have HL3:=ak (HL.1.below hb);have GJ:=sb HB hb;clear hb)|(go_at_call 168;refine(e9.calls a2 oa 0 _ HP.1).mono ?_;rintro e w4 ⟨rfl,hb⟩;have hL4:=HL3.1.below hb;have h0:=hL4.head;have HL4:=ak hL4;have SU:=sb GJ hb;clear hb hL4)|(go_at_call 203;refine(dN.calls k _ _ ks oa b1 b2 _ ((Kd.aW (HL4.1.row (Nat.le_refl _))).2.2) (Nat.le_refl _) HBE.1).mono ?_;rintro e w5 ⟨rfl,hb⟩;have xN:=sb SU hb;clear hb))
       go_ret2;rw[←Qi.1];exact⟨rfl,xN.1⟩
     ·rw[if_neg ht] at h;obtain⟨rfl,rfl⟩:=Prod.mk.inj (Option.some.inj h);have mA:(err !=0)=true:=bne_iff_ne.2 ht;have Ul:(err==0)=false:=beq_eq_false_iff_ne.2 ht;clear h ht;go_enter Tryz.func197,Tryz.ntmps197
      go_wp2_with(first|(go_at_call 46;refine tl.1.mono ?_;rintro e w2 ⟨gy,gk,rfl,hL,hk,hb⟩;have HL:=ak hL;have HB:=ak hb;clear hL hb hk)|(go_at_call 166;refine(iv.calls a2 0 false _ OT.1).mono ?_;rintro e w3 ⟨rfl,hb⟩;have HL3:=ak (HL.1.below hb);have GJ:=sb HB hb;clear hb)|(go_at_call 168;refine(e9.calls a2 oa err _ HP.1).mono ?_;rintro e w4 ⟨rfl,hb⟩;have SU:=sb GJ hb;clear hb))
      go_ret2;exact⟨rfl,SU.1⟩
 ·rw[if_neg hl] at h;cases h
end Go.Proofs.YtmhdcgmfbjcndaaGreatDoor.P
