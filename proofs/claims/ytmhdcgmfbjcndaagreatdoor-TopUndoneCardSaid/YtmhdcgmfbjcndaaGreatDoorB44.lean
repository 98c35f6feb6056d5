import Derived.Test.YtmhdcgmfbjcndaaGreatDoorB43
import Derived.ChangeArms
import Derived.Deep.Slices
import Derived.SizedLaws
set_option linter.unusedVariables false
set_option linter.unusedSimpArgs false
set_option maxRecDepth 100000
set_option maxHeartbeats 8000000
namespace Go.Proofs.YtmhdcgmfbjcndaaGreatDoor.Pl
open Go Go.RowKit Go.Proofs.YtmhdcgmfbjcndaaGreatDoor.P Go.Proofs.aa.ag Go.Proofs.aa.ao Go.Proofs.YtmhdcgmfbjcndaaGreatDoor.OR
theorem yl{a1 a2:Int}{l6:List cU}{l7:List dJ}{l8:List (List Int)}(h:Hi a1 a2 l6 l7 l8)(i:Nat)(hi:i<l6.length):gT (bg l6) (bT l6 l8) i=mE l6[i]:=by
 have h8:=h.len8;have jo:=lR h.tab _ (List.getElem_mem hi);have hr:=h.rows i hi;rw[ze l6 i hi] at hr;unfold gT mE;rw[nO l6 i hi,Ir l6 l8 i hi (by omega)];cases hl:l6[i].f1 with
 |true=>
  rw[if_pos rfl];have:=Ip jo hl;have:¬(dn l8 i).length=0:=by omega
  simp [this]
 |false=>rw[if_neg (by decide)];simp
theorem Dg(rs:Bool→Int×Bool):∀(l:List Bool),(pick rs l=(false,0,false))∨∃x,x∈l∧(rs x).2=true∧pick rs l=(x,(rs x).1,true)
 |[]=> .inl rfl
 |x::l=>by
  unfold pick
  by_cases h:(rs x).2=true
  ·rw[if_pos h];exact .inr ⟨x,List.mem_cons_self,h,rfl⟩
  ·rw[if_neg h];rcases Dg rs l with h2|⟨y,h2,h3,h4⟩
   ·exact .inl h2
   ·exact .inr ⟨y,List.mem_cons_of_mem _ h2,h3,h4⟩
theorem I9(k:Nat)(hk:2500≤k){a0 a1 a2 a3 a4 a5:Int}{l6:List cU}{l7:List dJ}{l8:List (List Int)}(BV:l7.length≤1000)(h:oc a0 a1 a2 a3 a4 a5 l6 l7 l8)(n:Int)(kN:1≤n)(mD:n≤2048):
 dW.f k a0 a1 a2 a3 a4 a5 l6 l7 l8 n=some (false,0,false)∨∃two at_,dW.f k a0 a1 a2 a3 a4 a5 l6 l7 l8 n=some (two,at_,true)∧Fits a0 a5 l6 n two at_∧two∈gO a4:=by
 obtain⟨at1,is1,h1,f1⟩:=MF k hk BV h n kN mD true;obtain⟨at2,is2,h2,f2⟩:=MF k hk BV h n kN mD false;unfold dW.f;rw[h1,Option.bind_some,h2,Option.bind_some];rcases Dg (fun x=>if x=true then(at1,is1) else(at2,is2)) (gO a4) with h3|⟨x,h3,h4,h5⟩
 ·rw[h3];exact .inl rfl
 ·rw[h5];refine .inr ⟨x,_,rfl,?_,h3⟩;cases x with
  |true=>simp only[if_true] at h4⊢;exact f1 h4
  |false=>simp only[Bool.false_eq_true,if_false] at h4⊢;exact f2 h4
theorem Dh(k:Nat)(hk:100≤k){l:List cU}(hl:l.length≤32){t:Nat}(h:l.findIdx? mE=some t):cm.f k l=some ((t:Int),true):=by
 rw[Gv k l (by omega) (by omega),h]
theorem find_spec{l:List cU}{t:Nat}(h:l.findIdx? mE=some t):∃ht:t<l.length,mE l[t]=true∧∀i:Nat,(hi:i<t)→mE (l[i]'(by omega))=false:=by
 obtain⟨ht,h1,h2⟩:=List.findIdx?_eq_some_iff_getElem.1 h;exact⟨ht,h1,fun i hi=>by simpa using h2 i hi⟩
theorem MU(k:Nat)(hk:100≤k){l:List cU}(hB:lH l=true){t:Nat}(h:l.findIdx? mE=some t)(ht:t<l.length)(two:Bool)(at_ n:Int)(jo:CL ⟨l[t].f0,true,two,at_,n⟩=true):
 cq.f k l 0 false two at_ n=some (l.set t ⟨l[t].f0,true,two,at_,n⟩,(t:Int),(bg l).getD t 0,0):=by
 have hl:=iu hB;unfold cq.f;rw[xK k l (by omega) (by omega),hB,Option.bind_some,if_pos rfl,Dh k hk hl.2 h,Option.bind_some];simp only;have hr:=CM k (by omega) ⟨l[t].f0,true,two,at_,n⟩;simp only at hr;rw[if_pos trivial,if_pos (by omega),if_pos (by omega),ze l t ht,hr,jo,Option.bind_some,if_pos rfl];unfold jD.f;rw[if_pos (by omega),Option.bind_some,Int.toNat_natCast,nO l t ht]
theorem BS{s:cU}(h:mE s=true):s.f1=false∧s.f0≠65535:=by
 unfold mE at h;simp only[Bool.and_eq_true,Bool.not_eq_true',bne_iff_ne,ne_eq] at h;exact h
theorem Lc(k:Nat)(hk:2500≤k){a0 a1 a2 a3 a4 a5:Int}{l6:List cU}{l7:List dJ}{l8:List (List Int)}(BV:l7.length≤1000)(h:oc a0 a1 a2 a3 a4 a5 l6 l7 l8)(n:Int):xY k a0 a1 a2 a3 a4 a5 l6 l7 l8 n:=by
 have hlen:=iu h.rows.tab
 by_cases hn:n<1∨2048<n
 ·exact .bad hn
 ·have kN:1≤n:=by omega
  have mD:n≤2048:=by omega
  cases hf:l6.findIdx? mE with
  |none=>
   refine .none kN mD fun i hi=>?_;rw[yl h.rows i hi];have:=List.findIdx?_eq_none_iff.1 hf l6[i] (List.getElem_mem hi);simpa using this
  |some t=>
   obtain⟨ht,h1,h2⟩:=find_spec hf;have rS:∀i:Nat,i<t→gT (bg l6) (bT l6 l8) i=false:=fun i hi=>by rw[yl h.rows i (by omega)];exact h2 i hi
   have su:gT (bg l6) (bT l6 l8) t=true:=by rw[yl h.rows t ht];exact h1
   have hN:=Dh k (by omega) hlen.2 hf;rcases I9 k hk BV h n kN mD with h3|⟨two,at_,h3,h4,h5⟩
   ·exact .full kN mD t ht rS su hN h3
   ·have hp:=C5 h n kN mD t ht (BS h1).1 two at_ h4 h5;exact .yes kN mD t two at_ _ ht rS su hN h3 (MU k (by omega) h.rows.tab hf ht two at_ n hp.1)
theorem Wm(k:Nat)(hk:2500≤k){a0 a1 a2 a3 a4 a5:Int}{l6:List cU}{l7:List dJ}{l8:List (List Int)}(BV:l7.length≤1000)(h:oc a0 a1 a2 a3 a4 a5 l6 l7 l8)(n:Int)(t:Nat)(two:Bool)(at_:Int)(ls:List cU)(ht:t<l6.length)(kN:1≤n)(mD:n≤2048)(hN:cm.f k l6=some ((t:Int),true))(hP:dW.f k a0 a1 a2 a3 a4 a5 l6 l7 l8 n=some (two,at_,true))(hT:cq.f k l6 0 false two at_ n=some (ls,(t:Int),(bg l6).getD t 0,0)):SE k a0 a1 a2 a3 a4 a5 l6 l7 l8 n t ls:=by
 have hlen:=iu h.rows.tab;have h8:=h.rows.len8
 have hf:l6.findIdx? mE=some t:=by
  rw[Gv k l6 (by omega) (by omega)] at hN;cases hf:l6.findIdx? mE with
  |none=>rw[hf] at hN;simp at hN
  |some j=>
   rw[hf] at hN;simp only[Option.some.injEq,Prod.mk.injEq,and_true] at hN
   congr 1
   omega
 obtain⟨_,h1,h2⟩:=find_spec hf;obtain⟨nB,Fb⟩:=BS h1
 have hF:Fits a0 a5 l6 n two at_∧two∈gO a4:=by
  rcases I9 k hk BV h n kN mD with h3|⟨axd,at',h3,h4,h5⟩
  ·rw[h3] at hP;simp at hP
  ·rw[h3] at hP;simp only[Option.some.injEq,Prod.mk.injEq,and_true] at hP;obtain⟨rfl,rfl⟩:=hP;exact⟨h4,h5⟩
 obtain⟨jo,hp⟩:=C5 h n kN mD t ht nB two at_ hF.1 hF.2
 have Qh:ls=l6.set t ⟨l6[t].f0,true,two,at_,n⟩:=by
  rw[MU k (by omega) h.rows.tab hf ht two at_ n jo] at hT;simp only[Option.some.injEq,Prod.mk.injEq] at hT;exact hT.1.symm
 have ao1:ls.length=l6.length:=by rw[Qh,List.length_set]
 rw[←Qh] at hp;have SG:(ls[t]'(by omega))=⟨l6[t].f0,true,two,at_,n⟩:=by subst Qh;exact List.getElem_set_self ..
 have hg:(bg ls).getD t 0=l6[t].f0:=by rw[nO ls t (by omega),SG]
 have hg0:=Fi (lR h.rows.tab _ (List.getElem_mem ht));have Ja:=Iq (lR h.rows.tab _ (List.getElem_mem ht)) nB;refine⟨ME k (by omega) BV hp,ao1,by rw[hg];omega,by rw[hg,nO l6 t ht],?_,?_,?_,?_⟩
 ·unfold iY.f;rw[cQ,fq,if_pos (by omega),if_pos (by omega),if_pos (by omega),if_pos (by omega),ya ls _ t (by omega) (by rw[List.length_set];omega),SG];simp only[if_true];rw[C4 l8 t t _ (by omega),if_pos rfl,List.length_replicate,if_pos (by omega),xZ ls t (by omega),hg,SG];simp
 ·unfold jM.f;obtain⟨b,h3,h4⟩:=wE k a0 a1 a2 a3 a4 a5 ls l7 (l8.set t (List.replicate n.toNat 0)) (by omega) BV (by omega);rw[h3,h4.2 hp,Option.bind_some,if_pos rfl,if_pos (by omega),if_pos (by omega),if_pos (by omega),ze ls t (by omega),SG]
 ·unfold jE.f;rw[xK k ls (by omega) (by omega),hp.rows.tab,Option.bind_some,if_pos rfl,if_neg (by omega),if_neg (by omega),if_pos (by omega),if_pos (by omega),ze ls t (by omega),SG];simp only[if_true];unfold jD.f;rw[if_pos (by omega),Option.bind_some,Int.toNat_natCast]
  have hmn:mn (wrap64 (l6[t].f0+1)) 65535=l6[t].f0+1:=by
   rw[iz (by omega) (by omega)];unfold mn;split<;>omega
  rw[hmn,Qh,List.set_set,nO l6 t ht,ze l6 t ht]
  have:l6[t]=⟨l6[t].f0,false,false,0,0⟩:=by
   cases hx:l6[t] with
   |mk f0 f1 f2 f3 f4=>
    rw[hx] at nB Ja;simp only at nB Ja;obtain⟨q1,q2,q3⟩:=Ja;subst nB q1 q2 q3;rfl
  congr 3
  rw[this]
 ·rw[List.set_set];have hr:=h.rows.rows t ht;rw[ze l6 t ht,Ja.2.2,rdL l8 t (by omega)] at hr;have:l8[t]=[]:=List.length_eq_zero_iff.1 (by omega);have h9:=sw l8 t (by omega);rw[rdL l8 t (by omega),this] at h9;exact h9
def Wn(l6:List cU)(l7:List dJ)(l8:List (List Int)):Prop:=l6.length≤60∧l7.length≤60∧l8.length≤60
theorem acm(a0 a1 a2 a3 a4 a5:Int)(l6:List cU)(l7:List dJ)(l8:List (List Int)):∀(d k i:Nat),i+d=100→2*d+2≤k→∃b,aU.l1 k (i:Int) a0 a1 a2 a3 a4 a5 l6 l7 l8=some b∧(b=true→Wn l6 l7 l8):=by
 have Ld:∀k:Nat,∀i:Int,∃b,aU.j3 (k+1) i false a0 a1 a2 a3 a4 a5 l6 l7 l8=some b∧(b=true→Wn l6 l7 l8):=by
  intro k i;simp only[aU.j3];rw[if_neg (by decide)]
  by_cases h1:(l6.length:Int)≤60
  ·rw[if_pos h1]
   by_cases h2:(l7.length:Int)≤60
   ·rw[if_pos h2];exact⟨_,rfl,fun h=>by have:=of_decide_eq_true h;exact⟨by omega,by omega,by omega⟩⟩
   ·rw[if_neg h2];exact⟨_,rfl,fun h=>by cases h⟩
  ·rw[if_neg h1];exact⟨_,rfl,fun h=>by cases h⟩
 intro d
 induction d with
 |zero=>
  intro k i hi hk;obtain⟨k,rfl⟩:∃m,k=m+2:=⟨k-2,by omega⟩;rw[aU.l1];split
  ·rw[decide_eq_false (by omega)];exact Ld k i
  ·exact Ld k i
 |succ d ih=>
  intro k i hi hk;obtain⟨k,rfl⟩:∃m,k=m+2:=⟨k-2,by omega⟩;rw[aU.l1];split
  ·rename_i cX
   rw[decide_eq_true (by omega)];simp only[aU.j3];rw[if_pos trivial,if_pos (by omega),if_pos cX];split
   ·exact⟨_,rfl,fun h=>by cases h⟩
   ·rw[rh i (by omega)];exact ih k (i+1) (by omega) (by omega)
  ·exact Ld k i
theorem acn(a0 a1 a2 a3 a4 a5:Int)(l6:List cU)(l7:List dJ)(l8:List (List Int)):∀(d k i:Nat),i+d=100→2*d+300≤k→∃b,aU.l0 k (i:Int) a0 a1 a2 a3 a4 a5 l6 l7 l8=some b∧(b=true→Wn l6 l7 l8):=by
 have Ld:∀k:Nat,250≤k→∀i:Int,∃b,aU.j1 (k+1) i false a0 a1 a2 a3 a4 a5 l6 l7 l8=some b∧(b=true→Wn l6 l7 l8):=by
  intro k hk i;simp only[aU.j1];rw[if_neg (by decide)];exact acm a0 a1 a2 a3 a4 a5 l6 l7 l8 100 k 0 (by omega) (by omega)
 intro d
 induction d with
 |zero=>
  intro k i hi hk;obtain⟨k,rfl⟩:∃m,k=m+2:=⟨k-2,by omega⟩;rw[aU.l0];split
  ·rw[decide_eq_false (by omega)];exact Ld k (by omega) i
  ·exact Ld k (by omega) i
 |succ d ih=>
  intro k i hi hk;obtain⟨k,rfl⟩:∃m,k=m+2:=⟨k-2,by omega⟩;rw[aU.l0];split
  ·rename_i cX
   rw[decide_eq_true (by omega)];simp only[aU.j1];rw[if_pos trivial,if_pos (by omega),if_pos cX];split
   ·exact⟨_,rfl,fun h=>by cases h⟩
   ·rw[rh i (by omega)];exact ih k (i+1) (by omega) (by omega)
  ·exact Ld k (by omega) i
theorem aco(a0 a1 a2 a3 a4 a5:Int)(A6:Option Addr)(c6:Nat)(l6:List cU)(A7:Option Addr)(c7:Nat)(l7:List dJ)(A8:Option Addr)(c8:Nat)(l8:List (List Int))(n:Int)(w:World)(qJ:Kd.C gW w A6 l6.length l6)(om:l6.length≤c6)(qK:Kd.C gQ w A7 l7.length l7)(lY:l7.length≤c7)(sE:Kd.C (Kd.slice 5 (Kd.int .u8)) w A8 l8.length l8)(nT:l8.length≤c8):
 Calls Tryz.prog 3 #[.agg #[.int .i64 a0,.int .i64 a1,.int .i64 a2,.int .i64 a3,.int .i64 a4,.int .i64 a5,.slice A6 l6.length c6,.slice A7 l7.length c7,.slice A8 l8.length c8],.int .i64 n] w fun e w'=>e= .returned (.bool true)∧Below w.heap.size w w':=by
 obtain⟨fw,SF,SH⟩:=acn a0 a1 a2 a3 a4 a5 l6 l7 l8 100 3000 0 (by omega) (by omega);rw[show((0:Nat):Int)=0 from rfl] at SF
 have hrt:fw=true→∃b,aT.f 3000 a0 a1 a2 a3 a4 a5 l6 l7 l8=some b∧(b=true↔oc a0 a1 a2 a3 a4 a5 l6 l7 l8):=fun h=>by
  have:=SH h;exact wE 3000 a0 a1 a2 a3 a4 a5 l6 l7 l8 (by have:=this.1;omega) (by have:=this.2.1;omega) (by omega)
 have hval:fw=true→aT.f 3000 a0 a1 a2 a3 a4 a5 l6 l7 l8=some ((aT.f 3000 a0 a1 a2 a3 a4 a5 l6 l7 l8).getD false):=fun h=>by
  obtain⟨b,h1,_⟩:=hrt h;rw[h1];rfl
 have hP:fw=true→(aT.f 3000 a0 a1 a2 a3 a4 a5 l6 l7 l8).getD false=true→oc a0 a1 a2 a3 a4 a5 l6 l7 l8:=fun h h2=>by
  obtain⟨b,h1,h3⟩:=hrt h;rw[h1] at h2;exact h3.1 h2
 refine FL 3000 a0 a1 a2 a3 a4 a5 A6 c6 l6 A7 c7 l7 A8 c8 l8 n fw ((aT.f 3000 a0 a1 a2 a3 a4 a5 l6 l7 l8).getD false) w qJ om qK lY sE nT SF hval (fun h1 h2=>?_) (fun h1 h2 t two at_ ls ht kN mD hN hF hT=>?_)
 ·have hR:=hP h1 h2;have hl:=SH h1;have h7:l7.length≤1000:=by have:=hl.2.1;omega
  refine⟨ME 3000 (by omega) h7 hR,Lc 3000 (by omega) h7 hR n,by omega,fun i hi=>?_⟩;have:=zR hR.rows i (by have:=hR.rows.len8;omega);unfold dn at this;rw[Int.toNat_natCast] at this;omega
 ·have hR:=hP h1 h2;have hl:=SH h1;exact Wm 3000 (by omega) (by have:=hl.2.1;omega) hR n t two at_ ls ht kN mD hN hF hT
end Go.Proofs.YtmhdcgmfbjcndaaGreatDoor.Pl
namespace Go.Proofs.YtmhdcgmfbjcndaaGreatDoor.P
open Go Go.RowKit Go.Proofs.aa.ag
def lL.f(az ax aA aC aV aX:Int)(aw:List cU)(aD:List dJ)(aG:List (List Int))(a1:Int):Option Bool:=some true
theorem lL.calls(az ax aA aC aV aX:Int)(cN:Option Addr)(cF:Nat)(aw:List cU)(cy:Option Addr)(cA:Nat)(aD:List dJ)(cC:Option Addr)(cB:Nat)(aG:List (List Int))(a1:Int)(r:Bool)(w:World)(dZ:Kd.C gW w cN aw.length aw)(ef:aw.length≤cF)(eb:Kd.C gQ w cy aD.length aD)(en:aD.length≤cA)(dL:Kd.C (Kd.slice 5 (Kd.int .u8)) w cC aG.length aG)(ew:aG.length≤cB)(h:lL.f az ax aA aC aV aX aw aD aG a1=some r):
 Calls Tryz.prog 3 #[.agg #[.int .i64 az,.int .i64 ax,.int .i64 aA,.int .i64 aC,.int .i64 aV,.int .i64 aX,.slice cN aw.length cF,.slice cy aD.length cA,.slice cC aG.length cB],.int .i64 a1] w fun e w'=>e= .returned (.bool r)∧Below w.heap.size w w':=by
 obtain rfl:=Option.some.inj h;exact Pl.aco az ax aA aC aV aX cN cF aw cy cA aD cC cB aG a1 w dZ ef eb en dL ew
end Go.Proofs.YtmhdcgmfbjcndaaGreatDoor.P
namespace Go.Proofs.YtmhdcgmfbjcndaaGreatDoor.Open
open Go.ChangeShapes Go.WideShapes Go.Deep Go.Proofs.aa.ag
def eV{α:Type}(P:Program)(t:TypeId)(d:Kd α)(ok:α→Prop):Prop:=
 ∀{H:Type}{enc:TypeId×Value→H}{w:World}{base:Nat}{spare:Nat→Bool}{held:Bool}{fuel:Nat}{cs:List Value}{x:DataW H×List MemPlace},
  DataW.trod enc P w base spare held fuel t cs=some x→(∀n∈x.1.weights P t,n≤reachBytes)→∃a,d.K w a cs∧ok a
section
variable {P:Program}{t e:TypeId}
theorem eV.int{k:IntKind}(hu:P.underlying t=some (.int k)):eV P t (Kd.int k) (fun a=>(Lit.int k a).wf=true):=by
 intro H enc w base spare held fuel cs x h _;obtain⟨n,rfl,_,hw⟩:=DataW.trod_int hu h;exact⟨n,rfl,hw⟩
theorem eV.bool(hu:P.underlying t=some .bool):eV P t Kd.bool (fun _=>True):=by
 intro H enc w base spare held fuel cs x h _;obtain⟨n,rfl,_⟩:=DataW.trod_bool hu h;exact⟨n,rfl,trivial⟩
theorem eV.string(hu:P.underlying t=some .string):eV P t Kd.string (fun a=>a.size≤140737488351232):=by
 intro H enc w base spare held fuel cs x h hw;obtain⟨n,rfl,rfl,_⟩:=DataW.trod_string hu h;refine⟨n,rfl,?_⟩;have:=hw n.data.toList.length (by simp [DataW.weights]);rw[Array.length_toList] at this;exact this
theorem tN{H:Type}{e:TypeId}:∀{l:List (DataW H)}{d:DataW H}{n:Nat},d∈l→n∈d.weights P e→n∈DataW.weightsAll P e l
 |d0::l,d,n,hd,hn=>by
  simp only[DataW.weightsAll,List.mem_append];rcases List.mem_cons.1 hd with rfl|hd
  ·exact .inl hn
  ·exact .inr (tN hd hn)
theorem eV.slice{α:Type}{d:Kd α}{ok:α→Prop}{B:Nat}(hu:P.underlying t=some (.slice e))(hs:P.cellsOf e=d.sz)(hB:P.bytesOf e=B)(h:eV P e d ok):
 eV P t (Kd.slice e d) (fun l=>l.length≤maxLen∧l.length*B≤140737488351232∧∀x∈l,ok x):=by
 intro H enc w base spare held fuel cs x hx hw;rcases open_slice hu hx with⟨rfl,rfl⟩|⟨a,len,cap,m,n,D,Pl,rfl,_,hl,hm,hmm,wj,hi⟩
 ·refine⟨[],⟨none,0,rfl,Nat.le_refl _,?_⟩,by simp,by simp,by simp⟩;exact⟨rfl,by simp,fun h0=>absurd h0 (by simp)⟩
 ·have hlm:len≤m:=by rw[hmm];split<;>omega
  subst wj;have ahZ:∀i,i<len→D i∈(List.range len).map D:=fun i SL=>List.mem_map.2 ⟨i,List.mem_range.2 SL,rfl⟩
  have TU:∀i,i<len→∀n∈(D i).weights P e,n≤reachBytes:=by
   intro i SL n hn;refine hw n ?_;simp only[DataW.weights,hu,List.mem_cons,List.mem_append];exact .inr (.inl (tN (ahZ i SL) hn))
  have Lf:∀i,i<len→∃(y:α)(c:List Value),w.cells? base (a.add (i*P.cellsOf e)) (P.cellsOf e)=some c∧d.K w y c∧ok y:=by
   intro i SL;obtain⟨c,hc,ht⟩:=hi i (by omega);obtain⟨y,hy,jo⟩:=h ht (TU i SL);exact⟨y,c,hc,hy,jo⟩
  have Yc:len*B≤140737488351232:=by
   have z:=hw ((((List.range len).map D).length+((List.range (m-len)).map fun j=>D (len+j)).length)*P.bytesOf e) (by simp only[DataW.weights,hu];exact List.mem_cons_self);rw[List.length_map,List.length_range,List.length_map,List.length_range,hB] at z;exact Nat.le_trans (Nat.mul_le_mul_right _ (by omega)) z
  obtain⟨l,OU,hle⟩:∃l:List α,l.length=len∧∀i y,l[i]? =some y→∃c,w.cells? base (a.add (i*P.cellsOf e)) (P.cellsOf e)=some c∧d.K w y c∧ok y:=by
   clear hx hw hi hmm hlm ahZ TU Yc
   induction len with
   |zero=>exact⟨[],rfl,fun i y hy=>by simp at hy⟩
   |succ len ih=>
    obtain⟨l,OU,hle⟩:=ih (by omega) (fun i SL=>Lf i (by omega));obtain⟨y,c,h1,h2,h3⟩:=Lf len (by omega);refine⟨l++[y],by rw[List.length_append,OU];rfl,fun i z hz=>?_⟩;rcases Nat.lt_or_ge i l.length with cX|F9
    ·rw[List.getElem?_append_left cX] at hz;exact hle i z hz
    ·have hi3:i=len:=by
      have:=(List.getElem?_eq_some_iff.1 hz).1;rw[List.length_append,List.length_singleton] at this;omega
     subst hi3
     have vn:y=z:=by
      rw[List.getElem?_append_right F9,OU,Nat.sub_self] at hz;exact Option.some.inj hz
     subst vn;exact⟨c,h1,h2,h3⟩
  have hmx:len≤maxLen:=Nat.le_trans hl hm;refine⟨l,⟨some a,cap,by rw[OU],by omega,rfl,by rw[OU];unfold maxLen at hmx;omega,fun _=>⟨a,rfl,fun j p hp=>?_⟩⟩,by omega,by rw[OU];exact Yc,fun x hx=>?_⟩
  ·obtain⟨c,h1,h2,_⟩:=hle j p hp;obtain⟨_,oK,dH⟩:=World.cells?_some h1;refine⟨c,by rw[oK,hs],h2,fun i u hu2=>?_⟩;have hic:i<c.length:=(List.getElem?_eq_some_iff.1 hu2).1;rw[←hs,←Go.Deep.add_add,dH i (by omega)];exact hu2
  ·obtain⟨j,hj,rfl⟩:=List.mem_iff_getElem.1 hx;obtain⟨_,_,_,h3⟩:=hle j _ (List.getElem?_eq_getElem hj);exact h3
def gV{α:Type}(P:Program)(l:List Field)(off:Nat)(d:Kd α)(ok:α→Prop):Prop:=
 ∀{H:Type}{enc:TypeId×Value→H}{w:World}{base:Nat}{spare:Nat→Bool}{held:Bool}{n:Nat}{cs:List Value}{xs:List (DataW H×List MemPlace)},
  xs.length=l.length→(∀(i:Nat)(f:Field),l[i]? =some f→DataW.trod enc P w base spare held n f.type ((cs.drop f.offset).take (P.cellsOf f.type))=xs[i]?)→
  (∀m∈DataW.weightsEach P (l.map (·.type)) (xs.map (·.1)),m≤reachBytes)→cs.length=off+d.sz→∃a,d.K w a (cs.drop off)∧ok a
theorem gV.one{α:Type}{f:Field}{off:Nat}{d:Kd α}{ok:α→Prop}(ho:f.offset=off)(hs:P.cellsOf f.type=d.sz)(h:eV P f.type d ok):gV P [f] off d ok:=by
 intro H enc w base spare held n cs xs hl hf hw hlen
 match xs,hl with
 |[x],_=>
  have h0:=hf 0 f rfl;rw[ho,hs,List.take_of_length_le (by rw[List.length_drop];omega)] at h0;exact h h0 (fun m hm=>hw m (by simp [DataW.weightsEach,hm]))
theorem gV.cons{α β:Type}{f:Field}{l:List Field}{off:Nat}{d:Kd α}{d':Kd β}{ok:α→Prop}{ok':β→Prop}(ho:f.offset=off)(hs:P.cellsOf f.type=d.sz)(h:eV P f.type d ok)(h':gV P l (off+d.sz) d' ok'):
 gV P (f::l) off (Kd.pair d d') (fun x=>ok x.1∧ok' x.2):=by
 intro H enc w base spare held n cs xs hl hf hw hlen
 match xs,hl with
 |x::xs,hl=>
  have h0:=hf 0 f rfl;rw[ho,hs] at h0;simp only[List.map_cons,DataW.weightsEach,List.mem_append] at hw;have ah0:cs.length=off+d.sz+d'.sz:=by rw[hlen];simp [Kd.pair];omega
  obtain⟨a,ha,jo⟩:=h h0 (fun m hm=>hw m (.inl hm));obtain⟨b,hb,ao2⟩:=h' (xs:=xs) (cs:=cs) (by simpa using hl) (fun i g hg=>hf (i+1) g (by simpa using hg)) (fun m hm=>hw m (.inr hm)) ah0;refine⟨(a,b),⟨_,_,?_,ha,hb⟩,jo,ao2⟩;rw[←List.drop_drop,List.take_append_drop]
theorem eV.struct{α β:Type}{fs:Array Field}{d:Kd α}{ok:α→Prop}{f:β→α}(g:α→β)(hg:∀a,f (g a)=a)(hu:P.underlying t=some (.struct fs))(hs:P.cellsOf t=d.sz)(h:gV P fs.toList 0 d ok):eV P t (Kd.Ts d f) (fun b=>ok (f b)):=by
 intro H enc w base spare held fuel cs x hx hw;obtain⟨xs,n,_,rfl,hlen,hxl,hf⟩:=DataW.trod_struct hu hx;obtain⟨a,ha,jo⟩:=h (cs:=cs) (xs:=xs) (by rw[hxl,Array.length_toList]) (fun i f hi=>hf i f (by rw[←Array.getElem?_toList];exact hi)) (fun m hm=>hw m (by simp only[DataW.weights,hu];exact hm)) (by rw[hlen,hs];omega);exact⟨g a,by show d.K w (f (g a)) cs;rw[hg];exact ha,by show ok (f (g a));rw[hg];exact jo⟩
theorem eV.arg{α:Type}{d:Kd α}{ok:α→Prop}{H:Type}{enc:TypeId×Value→H}{w:World}{base:Nat}{spare:Nat→Bool}{held:Bool}{v:Value}{x:DataW H}{ps:List MemPlace}{ts:List TypeId}{ds:List (DataW H)}{j:Nat}(h:eV P t d ok)
 (oL:(DataW.weightsEach P ts ds).all (·≤reachBytes)=true) (ht:ts[j]? =some t) (hd:ds[j]? =some x) (hx:DataW.Trod enc P w base spare held t v x ps):∃a,d.K w a v.cells.toList∧ok a:=by
 obtain⟨fuel,hf⟩:=hx;exact h hf (fun n hn=>by simpa using List.all_eq_true.1 oL _ (DataW.weights_mem_each ht hd n hn))
end
end Go.Proofs.YtmhdcgmfbjcndaaGreatDoor.Open
namespace Go.Proofs.YtmhdcgmfbjcndaaGreatDoor.Open
open Go.ChangeShapes Go.WideShapes Go.Deep Go.RowKit Go.Proofs.YtmhdcgmfbjcndaaGreatDoor.P Go.Proofs.aa.ag
def ah1(b:S23):Prop:=(Lit.int .i64 b.f0).wf=true∧(Lit.int .i64 b.f1).wf=true∧(Lit.int .i64 b.f2).wf=true∧(Lit.int .i64 b.f3).wf=true
theorem Wo:eV Tryz.prog 23 k23 ah1:=eV.struct (fun x=>⟨x.1,x.2.1,x.2.2.1,x.2.2.2⟩) (fun _=>rfl) Tryz.underlying23 (by kernel_rfl) (gV.cons rfl (by kernel_rfl) (eV.int Tryz.underlying3) (gV.cons rfl (by kernel_rfl) (eV.int Tryz.underlying3) (gV.cons rfl (by kernel_rfl) (eV.int Tryz.underlying3) (gV.one rfl (by kernel_rfl) (eV.int Tryz.underlying3)))))
def ah2(b:cU):Prop:=(Lit.int .i64 b.f0).wf=true∧True∧True∧(Lit.int .i64 b.f3).wf=true∧(Lit.int .i64 b.f4).wf=true
theorem Wp:eV Tryz.prog 43 gW ah2:=eV.struct (fun x=>⟨x.1,x.2.1,x.2.2.1,x.2.2.2.1,x.2.2.2.2⟩) (fun _=>rfl) Tryz.underlying43 (by kernel_rfl) (gV.cons rfl (by kernel_rfl) (eV.int Tryz.underlying3) (gV.cons rfl (by kernel_rfl) (eV.bool Tryz.underlying4) (gV.cons rfl (by kernel_rfl) (eV.bool Tryz.underlying4) (gV.cons rfl (by kernel_rfl) (eV.int Tryz.underlying3) (gV.one rfl (by kernel_rfl) (eV.int Tryz.underlying3))))))
def ah3(b:Pp):Prop:=(Lit.int .i64 b.f0).wf=true∧(Lit.int .i64 b.f1).wf=true
theorem Wq:eV Tryz.prog 32 k32 ah3:=eV.struct (fun x=>⟨x.1,x.2⟩) (fun _=>rfl) Tryz.underlying32 (by kernel_rfl) (gV.cons rfl (by kernel_rfl) (eV.int Tryz.underlying3) (gV.one rfl (by kernel_rfl) (eV.int Tryz.underlying3)))
def ah4(b:dJ):Prop:=b.f0.size≤140737488351232∧ah3 b.f1
theorem Wr:eV Tryz.prog 58 gQ ah4:=eV.struct (fun x=>⟨x.1,x.2⟩) (fun _=>rfl) Tryz.underlying58 (by kernel_rfl) (gV.cons rfl (by kernel_rfl) (eV.string Tryz.underlying9) (gV.one rfl (by kernel_rfl) Wq))
def ao3(b:S28):Prop:=ah1 b.f0∧(Lit.int .i64 b.f1).wf=true∧(Lit.int .i64 b.f2).wf=true∧(b.f3.length≤maxLen∧b.f3.length*32≤140737488351232∧∀x∈b.f3,ah2 x)∧(b.f4.length≤maxLen∧b.f4.length*32≤140737488351232∧∀x∈b.f4,ah4 x)∧(b.f5.length≤maxLen∧b.f5.length*24≤140737488351232∧∀x∈b.f5,(x.length≤maxLen∧x.length*1≤140737488351232∧∀y∈x,(Lit.int .u8 y).wf=true))
theorem Ws:eV Tryz.prog 28 k28 ao3:=eV.struct (fun x=>⟨x.1,x.2.1,x.2.2.1,x.2.2.2.1,x.2.2.2.2.1,x.2.2.2.2.2⟩) (fun _=>rfl) Tryz.underlying28 (by kernel_rfl) (gV.cons rfl (by kernel_rfl) Wo (gV.cons rfl (by kernel_rfl) (eV.int Tryz.underlying3) (gV.cons rfl (by kernel_rfl) (eV.int Tryz.underlying3) (gV.cons rfl (by kernel_rfl) (eV.slice Tryz.underlying24 (by kernel_rfl) (by kernel_rfl) Wp) (gV.cons rfl (by kernel_rfl) (eV.slice Tryz.underlying25 (by kernel_rfl) (by kernel_rfl) Wr) (gV.one rfl (by kernel_rfl) (eV.slice Tryz.underlying26 (by kernel_rfl) (by kernel_rfl) (eV.slice Tryz.underlying33 (by kernel_rfl) (by kernel_rfl) (eV.int Tryz.underlying5)))))))))
end Go.Proofs.YtmhdcgmfbjcndaaGreatDoor.Open
