import Derived.Test.YtmhdcgmfbjcndaaGreatDoorB22
import Derived.OpenShut
set_option linter.unusedVariables false
set_option linter.unusedSimpArgs false
set_option maxRecDepth 100000
set_option maxHeartbeats 8000000
namespace Go.Proofs.YtmhdcgmfbjcndaaGreatDoor.Pure
open Go.RowKit Go.Proofs.YtmhdcgmfbjcndaaGreatDoor.P Go.Proofs.aa.ag Go.Proofs.aa.ao
def mO(n aeg:Int)(o:fl):Bool:=decide ((dK n o.f0 o.f1).1≤aeg)&&decide (aeg-(dK n o.f0 o.f1).1<(dK n o.f0 o.f1).2.1)
theorem iz{n:Int}(h0: -9223372036854775808≤n)(h1:n≤9223372036854775807):wrap64 n=n:=by unfold wrap64;omega
def iZ:Nat→List Int→Nat→List eE
 |i,[],c=>if c=0 then[] else[⟨(i:Int)-c,c⟩]
 |i,k::r,c=>if k= -1 then iZ (i+1) r (c+1) else(if c=0 then[] else[⟨(i:Int)-c,c⟩])++iZ (i+1) r 0
theorem NA(out:List eE)(s:eE):bump (out++[s])=out++[⟨s.f0,s.f1+1⟩]:=by
 unfold bump
 have e:bU (out++[s]) (((out++[s]).length:Int)-1)=s:=by
  unfold bU;rw[List.length_append,List.length_singleton,show((out.length+1:Nat):Int)-1=(out.length:Int) by omega,Int.toNat_natCast,List.getD_eq_getElem?_getD,List.getElem?_append_right (Nat.le_refl _),Nat.sub_self];rfl
 rw[e,List.length_append,List.length_singleton,Nat.add_sub_cancel,List.set_append_right _ _ (Nat.le_refl _),Nat.sub_self];rfl
theorem NB:∀(r:List Int)(i:Nat)(out:List eE)(c:Nat),c≤i→
 ph i r (if c=0 then(out,false) else(out++[⟨(i:Int)-c,c⟩],true))=out++iZ i r c:=by
 intro r
 induction r with
 |nil=>
  intro i out c hc;simp only[ph,iZ]
  by_cases h:c=0
  ·rw[if_pos h,if_pos h,List.append_nil]
  ·rw[if_neg h,if_neg h]
 |cons k r ih=>
  intro i out c hc;simp only[ph,iZ]
  by_cases hk:k= -1
  ·rw[if_pos hk]
   by_cases h:c=0
   ·rw[if_pos h,h];have:=ih (i+1) out 1 (by omega);rw[if_neg (by decide)] at this;unfold AN;rw[if_pos hk];simp only[Bool.false_eq_true,if_false];rw[←this]
    congr 4
    simp
   ·rw[if_neg h];have:=ih (i+1) out (c+1) (by omega);rw[if_neg (by omega)] at this;unfold AN;rw[if_pos hk];simp only[if_true];rw[NA,←this]
    congr 4
    all_goals simp
    omega
  ·rw[if_neg hk];unfold AN
   by_cases h:c=0
   ·rw[if_pos h,if_pos h,if_neg hk];have:=ih (i+1) out 0 (by omega);rw[if_pos rfl] at this;rw[this];rfl
   ·rw[if_neg h,if_neg h,if_neg hk];have:=ih (i+1) (out++[⟨(i:Int)-c,c⟩]) 0 (by omega);rw[if_pos rfl] at this;rw[this,List.append_assoc]
theorem Um(l:List Int)(hl:l.length≤1024):lI.f l=some (iZ 0 l 0):=by
 unfold lI.f;rw[if_pos (by omega)];have:=NB l 0 [] 0 (Nat.le_refl _);rw[if_pos rfl,List.nil_append] at this;rw[this]
def tq(lo:Int):List eE→Prop
 |[]=>True
 |s::r=>lo≤s.f0∧1≤s.f1∧tq (s.f0+s.f1+1) r
theorem tq.weaken{lo lo':Int}{r:List eE}(h:tq lo r)(hl:lo'≤lo):tq lo' r:=by
 cases r with
 |nil=>trivial
 |cons s r=>exact⟨by have:=h.1;omega,h.2⟩
theorem AO:∀(r:List Int)(i c:Nat),c≤i→tq ((i:Int)-c) (iZ i r c):=by
 intro r
 induction r with
 |nil=>
  intro i c hc;simp only[iZ];split
  ·trivial
  ·exact⟨Int.le_refl _,by show(1:Int)≤c;omega,trivial⟩
 |cons k r ih=>
  intro i c hc;simp only[iZ];split
  ·have:=ih (i+1) (c+1) (by omega);exact this.weaken (by omega)
  ·have:=ih (i+1) 0 (by omega);split
   ·exact this.weaken (by omega)
   ·exact⟨Int.le_refl _,by show(1:Int)≤c;omega,this.weaken (by show(i:Int)-c+c+1≤_;omega)⟩
theorem tq.lo{lo:Int}:∀{r:List eE},tq lo r→∀s∈r,lo≤s.f0∧1≤s.f1
 |x::r,⟨h1,h2,h3⟩,s,hs=>by
  rcases List.mem_cons.1 hs with rfl|hs
  ·exact⟨h1,h2⟩
  ·have:=tq.lo h3 s hs;omega
def gI(n:Int)(cur:Option eE)(s:eE):Option eE:=
 if 1≤n∧n≤s.f1 then match cur with|none=>some s|some c=>if s.f1<c.f1 then some s else some c else cur
theorem GN{n:Int}{cur:Option eE}{s:eE}(h:¬(1≤n∧n≤s.f1)):gI n cur s=cur:=if_neg h
theorem NC{n:Int}{s:eE}(h:1≤n∧n≤s.f1):gI n none s=some s:=if_pos h
theorem Qj{n:Int}{c s:eE}(h:1≤n∧n≤s.f1)(h2:s.f1<c.f1):gI n (some c) s=some s:=by unfold gI;rw[if_pos h];exact if_pos h2
theorem Qk{n:Int}{c s:eE}(h:1≤n∧n≤s.f1)(h2:¬s.f1<c.f1):gI n (some c) s=some c:=by unfold gI;rw[if_pos h];exact if_neg h2
def o7:Option eE→Int×Bool×Int
 |none=>(0,false,0)
 |some s=>(s.f0,true,s.f1)
theorem DT{l:List eE}{i:Nat}(h:i<l.length):l.drop i=bU l i::l.drop (i+1):=by
 rw[List.drop_eq_getElem_cons h]
 congr 1
 unfold bU;rw[Int.toNat_natCast,List.getD_eq_getElem?_getD,List.getElem?_eq_getElem h];rfl
theorem xH(l:List eE)(n:Int)(hl:l.length≤140737488351232):∀(d k i:Nat)(cur:Option eE),i+d=l.length→d<k→
 dN.l0 k n (o7 cur).1 (o7 cur).2.1 (o7 cur).2.2 l (l.length:Int) i=some ((o7 ((l.drop i).foldl (gI n) cur)).1,(o7 ((l.drop i).foldl (gI n) cur)).2.1):=by
 intro d
 induction d with
 |zero=>
  intro k i cur hi hk;obtain⟨k,rfl⟩:∃m,k=m+1:=⟨k-1,by omega⟩;simp only[dN.l0];rw[if_neg (by omega),List.drop_of_length_le (by omega)];rfl
 |succ d ih=>
  intro k i cur hi hk;obtain⟨k,rfl⟩:∃m,k=m+1:=⟨k-1,by omega⟩;have cX:i<l.length:=by omega
  rw[DT cX,List.foldl_cons];have hn:=fun c=>ih k (i+1) c (by omega) (by omega);simp only[dN.l0];rw[if_pos (by omega),if_pos (by omega),if_pos (by omega),iz (n:=(i:Int)+1) (by omega) (by omega)];have e1:((i:Int)+1)=((i+1:Nat):Int):=by omega
  rw[e1]
  by_cases h1:n≥1
  ·rw[if_pos h1]
   by_cases h2:(bU l i).f1≥n
   ·rw[if_pos h2];cases cur with
    |none=>
     rw[NC ⟨h1,h2⟩,show(o7 none).2.1=false from rfl,if_neg (by decide)];exact hn (some (bU l i))
    |some c=>
     rw[show(o7 (some c)).2.1=true from rfl,show(o7 (some c)).2.2=c.f1 from rfl,if_pos rfl]
     by_cases h3:(bU l i).f1<c.f1
     ·rw[if_pos h3,Qj ⟨h1,h2⟩ h3];exact hn (some (bU l i))
     ·rw[if_neg h3,Qk ⟨h1,h2⟩ h3];exact hn (some c)
   ·rw[if_neg h2,GN (fun z=>h2 z.2)];exact hn cur
  ·rw[if_neg h1,GN (fun z=>h1 z.1)];exact hn cur
theorem Eo:∀(r:List Int)(i c:Nat),(iZ i r c).length≤r.length+1:=by
 intro r
 induction r with
 |nil=>intro i c;simp only[iZ];split<;>simp
 |cons k r ih=>
  intro i c;simp only[iZ];split
  ·have:=ih (i+1) (c+1);simp;omega
  ·have:=ih (i+1) 0;rw[List.length_append];split<;>simp<;>omega
theorem Un(l:List Int)(n:Int)(hl:l.length≤1024)(k:Nat)(hk:l.length+1<k):
 dN.f k l n=some ((o7 ((iZ 0 l 0).foldl (gI n) none)).1,(o7 ((iZ 0 l 0).foldl (gI n) none)).2.1):=by
 unfold dN.f;rw[Um l hl];have hlen:=Eo l 0 0;exact xH (iZ 0 l 0) n (by omega) (iZ 0 l 0).length k 0 none (by omega) (by omega)
theorem LN(n:Int):∀(l:List eE)(lo:Int)(cur:Option eE),tq lo l→(∀c,cur=some c→c.f0<lo∧1≤n∧n≤c.f1)→
 match l.foldl (gI n) cur with
 |none=>cur=none∧∀x∈l,¬(1≤n∧n≤x.f1)
 |some s=>(cur=some s∨s∈l)∧1≤n∧n≤s.f1∧(∀x∈l,n≤x.f1→s.f1≤x.f1∧(x.f1=s.f1→s.f0≤x.f0))∧∀c,cur=some c→s.f1≤c.f1∧(c.f1=s.f1→s.f0≤c.f0):=by
 intro l
 induction l with
 |nil=>
  intro lo cur _ hc;cases cur with
  |none=>exact⟨rfl,by simp⟩
  |some c=>exact⟨.inl rfl,(hc c rfl).2.1,(hc c rfl).2.2,by simp,fun d hd=>by obtain rfl:=Option.some.inj hd;exact⟨Int.le_refl _,fun _=>Int.le_refl _⟩⟩
 |cons s l ih=>
  intro lo cur hr hc;obtain⟨r1,r2,r3⟩:=hr;rw[List.foldl_cons]
  have h:=ih (s.f0+s.f1+1) (gI n cur s) r3 (by
   intro c lZ;unfold gI at lZ
   by_cases hq:1≤n∧n≤s.f1
   ·rw[if_pos hq] at lZ;cases cur with
    |none=>obtain rfl:=Option.some.inj lZ;exact⟨by omega,hq⟩
    |some d=>
     have hd:=hc d rfl;simp only at lZ;split at lZ
     ·obtain rfl:=Option.some.inj lZ;exact⟨by omega,hq⟩
     ·obtain rfl:=Option.some.inj lZ;exact⟨by omega,hd.2⟩
   ·rw[if_neg hq] at lZ;have hd:=hc c lZ;exact⟨by omega,hd.2⟩)
  generalize l.foldl (gI n) (gI n cur s)=r at h⊢;cases r with
  |none=>
   obtain⟨h1,h2⟩:=h;unfold gI at h1
   by_cases hq:1≤n∧n≤s.f1
   ·rw[if_pos hq] at h1;cases cur with
    |none=>cases h1
    |some d=>simp only at h1;split at h1<;>cases h1
   ·rw[if_neg hq] at h1;exact⟨h1,fun x hx=>by rcases List.mem_cons.1 hx with rfl|hx;exact hq;exact h2 x hx⟩
  |some t=>
   obtain⟨h1,h2,h3,h4,h5⟩:=h;unfold gI at h1 h5
   by_cases hq:1≤n∧n≤s.f1
   ·rw[if_pos hq] at h1 h5;cases cur with
    |none=>
     simp only at h1 h5;refine⟨.inr ?_,h2,h3,fun x hx SP=>?_,fun c lZ=>by cases lZ⟩
     ·rcases h1 with h1|h1
      ·obtain rfl:=Option.some.inj h1;exact List.mem_cons_self
      ·exact List.mem_cons_of_mem _ h1
     ·rcases List.mem_cons.1 hx with rfl|hx
      ·exact h5 _ rfl
      ·exact h4 x hx SP
    |some d=>
     have hd:=hc d rfl;simp only at h1 h5
     by_cases cX:s.f1<d.f1
     ·rw[if_pos cX] at h1 h5;refine⟨.inr ?_,h2,h3,fun x hx SP=>?_,fun c lZ=>?_⟩
      ·rcases h1 with h1|h1
       ·obtain rfl:=Option.some.inj h1;exact List.mem_cons_self
       ·exact List.mem_cons_of_mem _ h1
      ·rcases List.mem_cons.1 hx with rfl|hx
       ·exact h5 _ rfl
       ·exact h4 x hx SP
      ·obtain rfl:=Option.some.inj lZ;have:=h5 s rfl;omega
     ·rw[if_neg cX] at h1 h5;refine⟨?_,h2,h3,fun x hx SP=>?_,h5⟩
      ·rcases h1 with h1|h1
       ·exact .inl h1
       ·exact .inr (List.mem_cons_of_mem _ h1)
      ·rcases List.mem_cons.1 hx with rfl|hx
       ·have:=h5 d rfl;exact⟨by omega,fun e=>by omega⟩
       ·exact h4 x hx SP
   ·rw[if_neg hq] at h1 h5;refine⟨?_,h2,h3,fun x hx SP=>?_,h5⟩
    ·rcases h1 with h1|h1
     ·exact .inl h1
     ·exact .inr (List.mem_cons_of_mem _ h1)
    ·rcases List.mem_cons.1 hx with rfl|hx
     ·exact absurd ⟨h2,SP⟩ hq
     ·exact h4 x hx SP
theorem ZU{l:List fl}(h:∀x∈l,-9223372036854775808≤x.f0∧x.f0≤9223372036854775807)(hl:l.length≤8796093022208):OS l=true:=by
 unfold OS;rw[Bool.and_eq_true,decide_eq_true_eq,List.all_eq_true];exact⟨hl,fun o ho=>by rw[Bool.and_eq_true,decide_eq_true_eq,decide_eq_true_eq];exact h o ho⟩
theorem Ql{n:Int}{l:List fl}(h:OS l=true):iU.f n l=some (match laid n l with|some st=>(st.1,true)|none=>([],false)):=by
 unfold iU.f;rw[if_pos h];cases laid n l<;>rfl
theorem xR(n:Int)(l:List fl)(o:fl):laid n (l++[o])=(laid n l).bind fun st=>if(dK n o.f0 o.f1).2.2.2.2.2=true then kp (dK n o.f0 o.f1) st.1 st.2 else none:=by
 unfold laid;split
 ·rw[lz];cases layAll n l (List.replicate n.toNat (-1),List.replicate 64 0) with
  |none=>rfl
  |some st=>
   simp only[Option.bind_some,layAll];split
   ·cases kp (dK n o.f0 o.f1) st.1 st.2<;>rfl
   ·rfl
 ·rfl
theorem uy(n:Int):∀(l:List fl)(st Ej:List Int×List Nat),layAll n l st=some Ej→Ej.1.length=st.1.length∧Ej.2.length=st.2.length
 |[],st,Ej,h=>by obtain rfl:=Option.some.inj h;exact⟨rfl,rfl⟩
 |o::l,st,Ej,h=>by
  simp only[layAll] at h;split at h
  ·cases ho:kp (dK n o.f0 o.f1) st.1 st.2 with
   |none=>rw[ho] at h;cases h
   |some s2=>
    rw[ho] at h;have h1:=si ho;have h2:=uy n l s2 Ej h;exact⟨h2.1.trans h1.1,h2.2.trans h1.2⟩
  ·cases h
theorem nL{n:Int}{l:List fl}{st:List Int×List Nat}(h:laid n l=some st):0≤n∧n≤64∧st.1.length=n.toNat∧st.2.length=64:=by
 unfold laid at h;split at h
 ·rename_i hn
  have:=uy n l _ _ h;rw[List.length_replicate,List.length_replicate] at this;exact⟨hn.1,hn.2,this⟩
 ·cases h
theorem J5(len:Int):e9.f len=some (if 120<len∧len≤2048 then((len+255)/256,0) else(0,1)):=by
 unfold e9.f fH.f;simp only[Option.bind_some]
 by_cases h:120<len∧len≤2048
 ·rw[if_neg (by omega),if_neg (by omega),if_pos h];rw[iz (n:=len+256) (by omega) (by omega),iz (n:=len+256-1) (by omega) (by omega),Int.tdiv_eq_ediv_of_nonneg (by omega),iz (by omega) (by omega)]
  congr 3
  omega
 ·rw[if_neg h]
  by_cases h2:len≤120
  ·rw[if_pos h2]
  ·rw[if_neg h2,if_pos (by omega)]
theorem Cl{P:Int→Prop}(h:∀w,w=2∨w=3∨w=5∨w=7∨w=10∨w=15→P w){c:Int}(h0:0≤c)(h1:c<6):P (dB c):=by
 have:c=0∨c=1∨c=2∨c=3∨c=4∨c=5:=by omega
 rcases this with rfl|rfl|rfl|rfl|rfl|rfl<;>exact h _ (by decide)
theorem AP(n size:Int)(p k:Nat)(hs:1≤size∧size≤120)(hk:(k:Int)<28/dB (cG size)):
 dK n ((p:Int)*32+(4+(k:Int)*dB (cG size))) size=((p:Int),1,true,cG size,(k:Int),decide ((p:Int)<n)):=by
 have hc:=jt size;unfold dK;generalize lZ:cG size=c at hc hk⊢;revert hk;refine Cl (P:=fun w=>(k:Int)<28/w→(if(p:Int)*32+(4+(k:Int)*w)<0 then(0,0,false,0,0,false) else if 1≤size∧size≤120 then(if 4≤((p:Int)*32+(4+(k:Int)*w))%32∧(((p:Int)*32+(4+(k:Int)*w))%32-4)%w=0∧(((p:Int)*32+(4+(k:Int)*w))%32-4)/w<28/w then(((p:Int)*32+(4+(k:Int)*w))/32,1,true,c,(((p:Int)*32+(4+(k:Int)*w))%32-4)/w,decide (((p:Int)*32+(4+(k:Int)*w))/32<n)) else(((p:Int)*32+(4+(k:Int)*w))/32,1,true,c,0,false)) else if 120<size∧size≤2048 then(((p:Int)*32+(4+(k:Int)*w))/32,(size+255)/256,false,0,0,decide (((p:Int)*32+(4+(k:Int)*w))%32=0∧((p:Int)*32+(4+(k:Int)*w))/32<n∧(size+255)/256≤n-((p:Int)*32+(4+(k:Int)*w))/32)) else(((p:Int)*32+(4+(k:Int)*w))/32,0,false,0,0,false))=((p:Int),1,true,c,(k:Int),decide ((p:Int)<n))) (fun w hw hk=>?_) hc.1 hc.2
 have key:0≤(k:Int)*w∧(k:Int)*w+w≤28:=by
  rcases hw with rfl|rfl|rfl|rfl|rfl|rfl<;>omega
 have hw0:2≤w:=by omega
 have e1:((p:Int)*32+(4+(k:Int)*w))%32=4+(k:Int)*w:=by omega
 have e2:((p:Int)*32+(4+(k:Int)*w))/32=p:=by omega
 have e3:4+(k:Int)*w-4=(k:Int)*w:=by omega
 rw[e1,e2,e3,Int.mul_emod_left,Int.mul_ediv_cancel _ (by omega),if_neg (by omega),if_pos hs,if_pos ⟨by omega,rfl,hk⟩]
theorem J6(n size:Int)(p:Nat)(hs:120<size∧size≤2048):
 dK n ((p:Int)*32) size=((p:Int),(size+255)/256,false,0,0,decide (((p:Int)<n∧(size+255)/256≤n-p))):=by
 unfold dK;rw[if_neg (by omega),if_neg (by omega),if_pos hs,show(p:Int)*32/32=p by omega,show(p:Int)*32%32=0 by omega];simp
theorem CR:∀(r:List Int)(i c:Nat)(s:eE),c≤i→s∈iZ i r c→∃q m:Nat,s=⟨(q:Int),(m:Int)⟩∧i-c≤q∧q+m≤i+r.length∧1≤m∧∀j,q≤j→j<q+m→i≤j→r.getD (j-i) 0= -1:=by
 intro r
 induction r with
 |nil=>
  intro i c s hc hs;simp only[iZ] at hs;split at hs
  ·cases hs
  ·obtain rfl:=List.mem_singleton.1 hs;exact⟨i-c,c,by congr 1;omega,Nat.le_refl _,by simp;omega,by omega,fun j h1 h2 h3=>by omega⟩
 |cons k r ih=>
  intro i c s hc hs;simp only[iZ] at hs;split at hs
  ·rename_i hk
   obtain⟨q,m,rfl,h1,h2,h3,h4⟩:=ih (i+1) (c+1) s (by omega) hs;refine⟨q,m,rfl,by omega,by rw[List.length_cons];omega,h3,fun j g1 g2 g3=>?_⟩
   by_cases e:j=i
   ·rw[e,Nat.sub_self];exact hk
   ·rw[show j-i=(j-(i+1))+1 by omega];exact h4 j g1 g2 (by omega)
  ·rename_i hk
   rcases List.mem_append.1 hs with hs|hs
   ·split at hs
    ·cases hs
    ·obtain rfl:=List.mem_singleton.1 hs;exact⟨i-c,c,by congr 1;omega,Nat.le_refl _,by rw[List.length_cons];omega,by omega,fun j g1 g2 g3=>by omega⟩
   ·obtain⟨q,m,rfl,h1,h2,h3,h4⟩:=ih (i+1) 0 s (by omega) hs;refine⟨q,m,rfl,by omega,by rw[List.length_cons];omega,h3,fun j g1 g2 g3=>?_⟩;rw[show j-i=(j-(i+1))+1 by omega];exact h4 j g1 g2 (by omega)
theorem AQ{ks:List Int}{p:Nat}:∀{m:Nat},(∀j,j<m→ks.getD (p+j) 0= -1)→ql ks p m=true
 |0,_=>rfl
 |m+1,h=>by simp only[ql,AQ (m:=m) (fun j hj=>h j (by omega)),h m (by omega)];rfl
theorem sk{β:Type}{f:Nat→Option β}:∀{d i:Nat}{b:β},nK f d i=some b→∃q,i≤q∧q<i+d∧f q=some b
 |0,i,b,h=>by cases h
 |d+1,i,b,h=>by
  simp only[nK] at h;cases hf:f i with
  |some b'=>rw[hf] at h;simp only[Option.some.injEq] at h;subst h;exact⟨i,Nat.le_refl _,by omega,hf⟩
  |none=>
   rw[hf] at h;obtain⟨q,h1,h2,h3⟩:=sk h;exact⟨q,by omega,by omega,h3⟩
def placeOf(ks:List Int)(cs:List Nat)(size:Int):Int×Bool:=
 if 1≤size∧size≤120 then qm ks cs (cG size)
 else if 120<size∧size≤2048 then(match (iZ 0 ks 0).foldl (gI ((size+255)/256)) none with|none=>(0,false)|some s=>(s.f0*32,true))
 else(0,false)
theorem Qm{n:Int}{l:List fl}{size:Int}(h:OS l=true){k:Nat}(hk:70≤k):
 kH.f k n l size=some (match laid n l with|none=>(0,false)|some st=>placeOf st.1 st.2 size):=by
 unfold kH.f;rw[if_pos h];cases FP:laid n l with
 |none=>rfl
 |some st=>
  obtain⟨h0,h1,h2,h3⟩:=nL FP;simp only;unfold placeOf
  by_cases c1:1≤size∧size≤120
  ·rw[if_pos c1,if_pos c1]
  ·rw[if_neg c1,if_neg c1,J5];simp only[Option.bind_some]
   by_cases c2:120<size∧size≤2048
   ·rw[if_pos c2,if_pos c2,if_pos (show((size+255)/256,(0:Int)).2=0 from rfl),Un st.1 _ (by omega) k (by omega)];simp only[Option.bind_some];have GO:tq 0 (iZ 0 st.1 0):=(AO st.1 0 0 (Nat.le_refl _)).weaken (by omega);have hb:=LN ((size+255)/256) (iZ 0 st.1 0) 0 none GO (fun c hc=>by cases hc);cases hf:(iZ 0 st.1 0).foldl (gI ((size+255)/256)) none with
    |none=>
     show some (wrap64 ((0:Int)*32),false)=some (0,false);rw[show(0:Int)*32=0 by decide,iz (by omega) (by omega)]
    |some s=>
     rw[hf] at hb;have hs:s∈iZ 0 st.1 0:=by rcases hb.1 with h|h;cases h;exact h
     obtain⟨q,m,rfl,g1,g2,g3,_⟩:=CR st.1 0 0 s (Nat.le_refl _) hs;simp only[o7];rw[iz (by omega) (by omega)]
   ·rw[if_neg c2,if_neg c2,if_neg (by decide)]
theorem getD_set_ne{ks:List Int}{p q:Nat}{v:Int}(h:p≠q):(ks.set p v).getD q 0=ks.getD q 0:=by
 rw[List.getD_eq_getElem?_getD,List.getElem?_set_ne h,←List.getD_eq_getElem?_getD]
theorem yz{ks:List Int}{p:Nat}{v:Int}(h:p<ks.length):(ks.set p v).getD p 0=v:=by
 rw[List.getD_eq_getElem?_getD,List.getElem?_set_self h];rfl
theorem Ep(ks:List Int)(p:Nat):rd ks (p:Int)=ks.getD p 0:=by unfold rd;rw[Int.toNat_natCast]
theorem testBit_and{c k:Nat}(h:c.testBit k=false):c&&&2^k=0:=by
 apply Nat.eq_of_testBit_eq;intro i;rw[Nat.testBit_and,Nat.testBit_two_pow,Nat.zero_testBit]
 by_cases e:k=i
 ·subst e;rw[h];rfl
 ·simp [e]
theorem GP{c k:Nat}(h:c&&&2^k=0):c.testBit k=false:=by
 have:=congrArg (Nat.testBit · k) h;simp only[Nat.testBit_and,Nat.testBit_two_pow_self,Bool.and_true,Nat.zero_testBit] at this;exact this
theorem J7{ks:List Int}{cs:List Nat}{size:Int}{n:Nat}(hn:n≤64)(hk:ks.length=n){at_:Int}(h:placeOf ks cs size=(at_,true)):
 (dK n at_ size).2.2.2.2.2=true∧∃st,kp (dK n at_ size) ks cs=some st∧∀p:Nat,p<n→ks.getD p 0≠-1→st.1.getD p 0=ks.getD p 0:=by
 unfold placeOf at h
 by_cases c1:1≤size∧size≤120
 ·rw[if_pos c1] at h;unfold qm at h;have hc:=jt size;have hw:=sg hc.1 hc.2;have hM:0≤28/dB (cG size):=Int.ediv_nonneg (by omega) (by omega);cases h1:first (sj ks cs (cG size) (28/dB (cG size)).toNat) ks.length with
  |some pk=>
   obtain⟨p,k⟩:=pk;rw[h1] at h;simp only[Prod.mk.injEq,and_true] at h;obtain⟨q,q1,q2,q3⟩:=sk h1;unfold sj at q3;split at q3
   ·rename_i ZN
    unfold zF at q3;cases h2:first (fun k=>if(cs.getD q 0).testBit k=true then none else some k) (28/dB (cG size)).toNat with
    |none=>rw[h2] at q3;cases q3
    |some k'=>
     rw[h2] at q3;simp only[Option.map_some,Option.some.injEq,Prod.mk.injEq] at q3;obtain⟨rfl,rfl⟩:=q3;obtain⟨b,b1,b2,b3⟩:=sk h2;split at b3
     ·cases b3
     ·rename_i xQ
      obtain rfl:=Option.some.inj b3;subst h;rw[AP n size q b c1 (by omega)];refine⟨decide_eq_true (by omega),?_⟩;unfold kp;simp only[if_true,Int.toNat_natCast,Ep];rw[if_pos ⟨ZN,testBit_and (by simpa using xQ)⟩];exact⟨_,rfl,fun p _ _=>rfl⟩
   ·cases q3
  |none=>
   rw[h1] at h;simp only at h;cases h2:first (tm ks) ks.length with
   |none=>rw[h2] at h;simp at h
   |some p=>
    rw[h2] at h;simp only[Prod.mk.injEq,and_true] at h;obtain⟨q,q1,q2,q3⟩:=sk h2;unfold tm at q3;split at q3
    ·rename_i ZN
     obtain rfl:=Option.some.inj q3;have e:at_=(q:Int)*32+(4+((0:Nat):Int)*dB (cG size)):=by omega
     rw[e,AP n size q 0 c1 (by
      have:1≤28/dB (cG size):=(Int.le_ediv_iff_mul_le (by omega)).2 (by omega);omega)]
     refine⟨decide_eq_true (by omega),?_⟩;unfold kp;simp only[if_true,Int.toNat_natCast,Ep];rw[if_neg (by rw[ZN];omega),if_pos ZN];refine⟨_,rfl,fun p _ hp=>?_⟩
     by_cases e2:q=p
     ·rw[e2] at ZN;exact absurd ZN hp
     ·exact getD_set_ne e2
    ·cases q3
 ·rw[if_neg c1] at h
  by_cases c2:120<size∧size≤2048
  ·rw[if_pos c2] at h;have GO:tq 0 (iZ 0 ks 0):=(AO ks 0 0 (Nat.le_refl _)).weaken (by omega);have hb:=LN ((size+255)/256) (iZ 0 ks 0) 0 none GO (fun c hc=>by cases hc);cases hf:(iZ 0 ks 0).foldl (gI ((size+255)/256)) none with
   |none=>rw[hf] at h;simp at h
   |some s=>
    rw[hf] at h hb;simp only[Prod.mk.injEq,and_true] at h;obtain⟨b1,b2,b3,_⟩:=hb;have hs:s∈iZ 0 ks 0:=by rcases b1 with h|h;cases h;exact h
    obtain⟨q,m,rfl,g1,g2,g3,g4⟩:=CR ks 0 0 s (Nat.le_refl _) hs;simp only at h b3;subst h;rw[J6 n size q c2];refine⟨decide_eq_true ⟨by omega,by omega⟩,?_⟩;unfold kp;simp only[Bool.false_eq_true,if_false,Int.toNat_natCast];rw[if_pos (AQ fun j hj=>by have:=g4 (q+j) (by omega) (by omega) (by omega);rwa [Nat.sub_zero] at this)];refine⟨_,rfl,fun p hp hp2=>?_⟩
    have atX:¬(q≤p∧p<q+((size+255)/256).toNat):=by
     rintro⟨z1,z2⟩;have:=g4 p z1 (by omega) (by omega);rw[Nat.sub_zero] at this;exact hp2 this
    rw[getD_set_ne (by omega),rj,if_neg (by omega)]
  ·rw[if_neg c2] at h;simp at h
theorem yA{n a len:Int}(h:(dK n a len).2.2.2.2.2=true):
 (1≤len∧len≤120∧∃p k:Nat,a=(p:Int)*32+(4+(k:Int)*dB (cG len))∧(k:Int)<28/dB (cG len)∧(p:Int)<n∧dK n a len=((p:Int),1,true,cG len,(k:Int),true))∨
 (120<len∧len≤2048∧∃p:Nat,a=(p:Int)*32∧(p:Int)<n∧(len+255)/256≤n-p∧dK n a len=((p:Int),(len+255)/256,false,0,0,true)):=by
 unfold dK at h
 by_cases c0:a<0
 ·rw[if_pos c0] at h;cases h
 ·rw[if_neg c0] at h
  by_cases c1:1≤len∧len≤120
  ·rw[if_pos c1] at h;have hc:=jt len;have hw:=sg hc.1 hc.2
   by_cases c2:4≤a%32∧(a%32-4)%dB (cG len)=0∧(a%32-4)/dB (cG len)<28/dB (cG len)
   ·rw[if_pos c2] at h;simp only[decide_eq_true_eq] at h;refine .inl ⟨c1.1,c1.2,(a/32).toNat,((a%32-4)/dB (cG len)).toNat,?_⟩;have hq:0≤(a%32-4)/dB (cG len):=Int.ediv_nonneg (by omega) (by omega);have e1:(((a%32-4)/dB (cG len)).toNat:Int)=(a%32-4)/dB (cG len):=Int.toNat_of_nonneg hq;have e2:((a/32).toNat:Int)=a/32:=Int.toNat_of_nonneg (by omega);have hm:=Int.mul_ediv_add_emod (a%32-4) (dB (cG len));rw[c2.2.1,Int.add_zero,Int.mul_comm] at hm;rw[e1,e2];refine⟨by omega,c2.2.2,h,?_⟩;unfold dK;rw[if_neg c0,if_pos c1,if_pos c2,decide_eq_true h]
   ·rw[if_neg c2] at h;cases h
  ·rw[if_neg c1] at h
   by_cases c2:120<len∧len≤2048
   ·rw[if_pos c2] at h;simp only[decide_eq_true_eq] at h;have e2:((a/32).toNat:Int)=a/32:=Int.toNat_of_nonneg (by omega);refine .inr ⟨c2.1,c2.2,(a/32).toNat,?_⟩;rw[e2];refine⟨by omega,by omega,by omega,?_⟩;unfold dK;rw[if_neg c0,if_neg c1,if_pos c2,decide_eq_true h]
   ·rw[if_neg c2] at h;cases h
def AtP(n:Int)(p:Nat)(l:List fl)(v:Int)(c:Nat):Prop:=
 (v= -1∧∀o∈l,mO n p o=false)∨
 (0≤v∧v<6∧(∃o∈l,mO n p o=true)∧(∀o∈l,mO n p o=true→(dK n o.f0 o.f1).2.2.1=true∧(dK n o.f0 o.f1).2.2.2.1=v)∧∀k:Nat,c.testBit k=true↔∃o∈l,mO n p o=true∧(dK n o.f0 o.f1).2.2.2.2.1=k)∨
 (6≤v∧v≤7∧l.countP (mO n p)=1∧∀o∈l,mO n p o=true→(dK n o.f0 o.f1).2.2.1=false)
theorem AtP.other{n:Int}{p:Nat}{l:List fl}{v:Int}{c:Nat}(h:AtP n p l v c){o:fl}(ho:mO n p o=false):AtP n p (l++[o]) v c:=by
 have hm:∀{x:fl},x∈l++[o]→mO n p x=true→x∈l:=fun{x} hx h2=>by
  rcases List.mem_append.1 hx with hx|hx
  ·exact hx
  ·rw[List.mem_singleton.1 hx,ho] at h2;cases h2
 rcases h with⟨rfl,h⟩|⟨h0,h1,⟨o',h2,h2'⟩,h3,h4⟩|⟨h0,h1,h2,h3⟩
 ·refine .inl ⟨rfl,fun x hx=>?_⟩;cases e:mO n p x with
  |false=>rfl
  |true=>have:=h x (hm hx e);rw[e] at this;cases this
 ·refine .inr (.inl ⟨h0,h1,⟨o',List.mem_append_left _ h2,h2'⟩,fun x hx e=>h3 x (hm hx e) e,fun k=>?_⟩);rw[h4];exact⟨fun⟨x,a,b⟩=>⟨x,List.mem_append_left _ a,b⟩,fun⟨x,a,b⟩=>⟨x,hm a b.1,b⟩⟩
 ·refine .inr (.inr ⟨h0,h1,?_,fun x hx e=>h3 x (hm hx e) e⟩);rw[List.countP_append,h2,List.countP_singleton,ho];rfl
structure Inv (n:Nat) (l:List fl) (ks:List Int) (cs:List Nat):Prop where
 ok:∀o∈l,(dK n o.f0 o.f1).2.2.2.2.2=true
 len:ks.length=n
 cells:cs.length=64
 at_:∀p:Nat,p<n→AtP n p l (ks.getD p 0) (cs.getD p 0)
theorem AR{n p:Int}{q:Nat}{o:fl}{c k:Int}{b b':Bool}(e:dK n o.f0 o.f1=(p,1,b,c,k,b')):mO n q o=decide (p=(q:Int)):=by
 unfold mO;rw[e,←Bool.decide_and];exact decide_eq_decide.2 (by simp only;omega)
theorem CS{n p m:Int}{q:Nat}{o:fl}{c k:Int}{b b':Bool}(e:dK n o.f0 o.f1=(p,m,b,c,k,b')):mO n q o=decide (p≤(q:Int)∧(q:Int)<p+m):=by
 unfold mO;rw[e,←Bool.decide_and];exact decide_eq_decide.2 (by simp only;omega)
theorem wh{cs:List Nat}{p q v:Nat}(h:p≠q):(cs.set p v).getD q 0=cs.getD q 0:=by
 rw[List.getD_eq_getElem?_getD,List.getElem?_set_ne h,←List.getD_eq_getElem?_getD]
theorem wi{cs:List Nat}{p v:Nat}(h:p<cs.length):(cs.set p v).getD p 0=v:=by
 rw[List.getD_eq_getElem?_getD,List.getElem?_set_self h];rfl
theorem Inv.snoc{n:Nat}(hn:n≤64){l:List fl}{ks:List Int}{cs:List Nat}(h:Inv n l ks cs){o:fl}(ho:(dK n o.f0 o.f1).2.2.2.2.2=true){st:List Int×List Nat}(hl:kp (dK n o.f0 o.f1) ks cs=some st):Inv n (l++[o]) st.1 st.2:=by
 have hlen:=si hl;refine⟨fun x hx=>?_,hlen.1.trans h.len,hlen.2.trans h.cells,fun q hq=>?_⟩
 ·rcases List.mem_append.1 hx with hx|hx
  ·exact h.ok x hx
  ·rw[List.mem_singleton.1 hx];exact ho
 ·have hA:=h.at_ q hq;have hkl:=h.len;have oK:=h.cells;rcases yA ho with⟨s1,s2,p,k,ha,hk,hp,e⟩|⟨s1,s2,p,ha,hp,hm,e⟩
  ·have hc:=jt o.f1;have hh:∀q:Nat,mO n q o=decide ((p:Int)=q):=fun q=>AR e;rw[e] at hl;unfold kp at hl;simp only[if_true,Int.toNat_natCast,Ep] at hl
   by_cases epq:p=q
   ·subst epq;have J9:mO n p o=true:=by rw[hh];exact decide_eq_true rfl
    split at hl
    ·rename_i tT
     obtain rfl:=Option.some.inj hl;simp only;rw[wi (by omega)];rcases hA with⟨g,_⟩|⟨g0,g1,_,g3,g4⟩|⟨g0,_⟩
     ·omega
     ·refine .inr (.inl ⟨g0,g1,⟨o,by simp,J9⟩,fun x hx e2=>?_,fun j=>?_⟩)
      ·rcases List.mem_append.1 hx with hx|hx
       ·exact g3 x hx e2
       ·rw[List.mem_singleton.1 hx,e];exact⟨rfl,tT.1.symm⟩
      ·rw[Nat.testBit_or,Nat.testBit_two_pow,Bool.or_eq_true,g4,decide_eq_true_eq];constructor
       ·rintro(⟨x,a,b⟩|rfl)
        ·exact⟨x,List.mem_append_left _ a,b⟩
        ·exact⟨o,by simp,J9,by rw[e]⟩
       ·rintro⟨x,a,b1,b2⟩;rcases List.mem_append.1 a with a|a
        ·exact .inl ⟨x,a,b1,b2⟩
        ·rw[List.mem_singleton.1 a,e] at b2;simp only at b2;exact .inr (by omega)
     ·omega
    ·split at hl
     ·rename_i tT
      obtain rfl:=Option.some.inj hl;simp only;rw[wi (by omega),yz (by omega)];rcases hA with⟨_,g⟩|⟨g0,_⟩|⟨g0,_⟩
      ·refine .inr (.inl ⟨hc.1,hc.2,⟨o,by simp,J9⟩,fun x hx e2=>?_,fun j=>?_⟩)
       ·rcases List.mem_append.1 hx with hx|hx
        ·rw[g x hx] at e2;cases e2
        ·rw[List.mem_singleton.1 hx,e];exact⟨rfl,rfl⟩
       ·rw[Nat.testBit_two_pow,decide_eq_true_eq];constructor
        ·rintro rfl;exact⟨o,by simp,J9,by rw[e]⟩
        ·rintro⟨x,a,b1,b2⟩;rcases List.mem_append.1 a with a|a
         ·rw[g x a] at b1;cases b1
         ·rw[List.mem_singleton.1 a,e] at b2;simp only at b2;omega
      ·omega
      ·omega
     ·cases hl
   ·have ZV:mO n q o=false:=by rw[hh];exact decide_eq_false (by omega)
    have:AtP n q (l++[o]) (ks.getD q 0) (cs.getD q 0):=hA.other ZV;split at hl
    ·obtain rfl:=Option.some.inj hl;simp only;rw[wh epq];exact this
    ·split at hl
     ·obtain rfl:=Option.some.inj hl;simp only;rw[wh epq,getD_set_ne epq];exact this
     ·cases hl
  ·have hh:∀q:Nat,mO n q o=decide ((p:Int)≤q∧(q:Int)<p+(o.f1+255)/256):=fun q=>CS e;have hm1:1≤(o.f1+255)/256:=by omega
   have hsm:(dK n o.f0 o.f1).2.2.1=false:=by rw[e]
   rw[e] at hl;unfold kp at hl;simp only[Bool.false_eq_true,if_false,Int.toNat_natCast] at hl;generalize(o.f1+255)/256=oa at hm hl hh hm1;obtain⟨m,rfl⟩:∃m:Nat,oa=(m:Int):=⟨oa.toNat,by omega⟩;rw[Int.toNat_natCast] at hl;split at hl
   ·rename_i hf
    obtain rfl:=Option.some.inj hl;simp only
    by_cases Tt:p≤q∧q<p+m
    ·have J9:mO n q o=true:=by rw[hh];exact decide_eq_true (by omega)
     have nB:ks.getD q 0= -1:=by have:=AK (i:=q-p) hf (by omega);rwa [show p+(q-p)=q by omega] at this
     have hv:((tj ks p m).set p 6).getD q 0=6∨((tj ks p m).set p 6).getD q 0=7:=by
      by_cases e1:p=q
      ·rw[←e1];exact .inl (yz (by rw[jF];omega))
      ·rw[getD_set_ne e1,rj,if_pos (by omega)];exact .inr rfl
     rcases hA with⟨_,g⟩|⟨g0,_⟩|⟨g0,_⟩
     ·refine .inr (.inr ⟨by omega,by omega,?_,fun x hx e2=>?_⟩)
      ·rw[List.countP_append,List.countP_singleton,J9,if_pos rfl,List.countP_eq_zero.2 (fun x hx=>by rw[g x hx];decide)]
      ·rcases List.mem_append.1 hx with hx|hx
       ·rw[g x hx] at e2;cases e2
       ·rw[List.mem_singleton.1 hx];exact hsm
     ·omega
     ·omega
    ·have ZV:mO n q o=false:=by rw[hh];exact decide_eq_false (by omega)
     have hv:((tj ks p m).set p 6).getD q 0=ks.getD q 0:=by
      by_cases e1:p=q
      ·omega
      ·rw[getD_set_ne e1,rj,if_neg (by omega)]
     rw[hv];exact hA.other ZV
   ·cases hl
theorem LO{n:Nat}(hn:n≤64):∀(l pre:List fl)(st Ej:List Int×List Nat),Inv n pre st.1 st.2→layAll n l st=some Ej→Inv n (pre++l) Ej.1 Ej.2
 |[],pre,st,Ej,h,e=>by obtain rfl:=Option.some.inj e;rw[List.append_nil];exact h
 |o::l,pre,st,Ej,h,e=>by
  simp only[layAll] at e;split at e
  ·rename_i ho
   cases h1:kp (dK n o.f0 o.f1) st.1 st.2 with
   |none=>rw[h1] at e;cases e
   |some s2=>
    rw[h1] at e;have:=LO hn l (pre++[o]) s2 Ej (h.snoc hn ho h1) e
    rwa [List.append_assoc] at this
  ·cases e
theorem Uo{n:Nat}(hn:n≤64):Inv n [] (List.replicate n (-1)) (List.replicate 64 0):=
 ⟨fun o ho=>absurd ho (List.not_mem_nil),List.length_replicate,List.length_replicate,fun p hp=> .inl ⟨by rw[List.getD_eq_getElem?_getD,List.getElem?_replicate,if_pos hp];rfl,fun o ho=>absurd ho (List.not_mem_nil)⟩⟩
theorem AU{n:Nat}{l:List fl}{st:List Int×List Nat}(h:laid n l=some st):Inv n l st.1 st.2:=by
 have h0:=nL h;unfold laid at h;rw[if_pos ⟨h0.1,h0.2.1⟩,Int.toNat_natCast] at h;exact LO (by omega) l [] _ st (Uo (by omega)) h
end Go.Proofs.YtmhdcgmfbjcndaaGreatDoor.Pure
