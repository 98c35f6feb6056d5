import Derived.Test.YtmhdcgmfbjcndaaGreatDoorB03
import Derived.Laws.StructEq
set_option linter.unusedVariables false
set_option linter.unusedSimpArgs false
set_option maxRecDepth 100000
set_option maxHeartbeats 8000000
namespace Go.Proofs.aa.ag
open Go.RowKit
namespace Kd
def chunks(sz n:Nat)(inner:List Value):List (List Value):=(List.range n).map fun j=>(inner.drop (j*sz)).take sz
theorem fh(sz n:Nat)(inner:List Value):(chunks sz n inner).length=n:=by simp [chunks]
theorem M1{sz n:Nat}{inner:List Value}{j:Nat}(hj:j<n):(chunks sz n inner)[j]? =some ((inner.drop (j*sz)).take sz):=by simp [chunks,hj]
theorem oV{sz n:Nat}{inner:List Value}{j:Nat}{c:List Value}(h:(chunks sz n inner)[j]? =some c):c=(inner.drop (j*sz)).take sz:=by
 have hj:j<n:=by have:=(List.getElem?_eq_some_iff.1 h).1;rwa [fh] at this
 rw[M1 hj] at h;injection h with h
 exact h.symm
theorem Gg{α:Type}{Rr:α→List Value→Prop}{sz:Nat}{xs:List α}{inner:List Value}(h:fg Rr sz xs inner)(hR:∀x c,Rr x c→c.length=sz∧∀u∈c,u.oneCell'=true):fg (fun x cs=>cs=x∧cs.length=sz∧∀u∈cs,u.oneCell'=true) sz (chunks sz xs.length inner) inner:=by
 refine⟨by rw[fh];exact h.1,fun j p hj=>?_⟩;have Dn:j<xs.length:=by have:=(List.getElem?_eq_some_iff.1 hj).1;rwa [fh] at this
 have hp:=oV hj;exact⟨hp.symm,hR _ _ (h.2 j _ (List.getElem?_eq_getElem Dn))⟩
section
variable {α:Type}{d:Kd α}{e base n cc g:Nat}{ok ok' kc S:Nat→Prop}{w w1 W W1:World}{A:Option Addr}{u v v1:Value}{xs:List α}{x:α}{c:List Value}
theorem adq(h:F d W ok A n xs)(z:α)(i:Int)(h0:0≤i)(h1:i<n):
 ∃ad c,A=some ad∧c.length=d.sz∧FK d W ok (xs.getD i.toNat z) c∧(∀j u,c[j]? =some u→W.cell? (ad.add (i.toNat*d.sz+j))=some u)∧(0<d.sz→ok ad.block):=by
 obtain⟨ad,c,rfl,oK,hK,lZ⟩:=vv (uu h) z i h0 h1
 have Tt:0<d.sz→ok ad.block:=by
  intro hs
  by_cases hk:ok ad.block
  ·exact hk
  ·obtain⟨W',h2,h3⟩:=TH W ad.block;obtain⟨ad',c',he,akM,_,Zs⟩:=vv (h W' (fun k OK _=>h2 k (fun e=>hk (e▸OK)))) z i h0 h1;injection he with he
   subst he;have h4:=Zs 0 _ (List.getElem?_eq_getElem (by omega));rw[h3 _ (av _ _)] at h4;cases h4
 refine⟨ad,c,rfl,oK,fun W' hW=>?_,lZ,Tt⟩;obtain⟨ad',c',he,akM,hK',Zs⟩:=vv (h W' hW) z i h0 h1;injection he with he
 subst he
 have hc:c=c':=by
  apply List.ext_getElem?;intro j
  by_cases hj:j<d.sz
  ·have hb:W'.heap[ad.block]? =W.heap[ad.block]? :=by
    have h5:=lZ j _ (List.getElem?_eq_getElem (by omega));have h6:=World.block_lt_of_cell? W _ h5;rw[av] at h6;exact hW _ (Tt (by omega)) h6
   have h5:=lZ j _ (List.getElem?_eq_getElem (by omega));have h6:=Zs j _ (List.getElem?_eq_getElem (by omega));have h7:W'.cell? (ad.add (i.toNat*d.sz+j))=W.cell? (ad.add (i.toNat*d.sz+j)):=by simp [World.cell?,av,hb]
   rw[h7,h5] at h6;rw[List.getElem?_eq_getElem (by omega),List.getElem?_eq_getElem (by omega)];exact h6
  ·rw[List.getElem?_eq_none (by omega),List.getElem?_eq_none (by omega)]
 rw[hc];exact hK'
theorem Zt(h:F d W ok A n xs):dD (fun x c=>FK d W ok x c) d.sz W A n xs:=by
 obtain⟨hl,hm,hn⟩:=uu h;refine⟨hl,hm,fun hp=>?_⟩;obtain⟨ad,rfl,_⟩:=hn hp;refine⟨ad,rfl,fun j p hj=>?_⟩;obtain⟨Dn,hjp⟩:=List.getElem?_eq_some_iff.1 hj;obtain⟨ad',c,he,oK,hK,lZ,_⟩:=adq h p (j:Int) (by omega) (by omega);injection he with he
 subst he;simp only[Int.toNat_natCast] at hK lZ;rw[List.getD_eq_getElem?_getD,hj] at hK;exact⟨c,oK,hK,lZ⟩
def N{α:Type}(d:Kd α)(e:Nat)(w:World)(base:Nat)(ok:Nat→Prop)(v:Value)(xs:List α):Prop:=
 (∀k,v.ownBlock=some k→ok k)∧∃rows:List (List Value),rows.length=xs.length∧(raw d.sz).R e w base (fun k=>some k=v.ownBlock) v rows∧∀(j:Nat)(x:α)(c:List Value),xs[j]? =some x→rows[j]? =some c→FK d w (fun k=>ok k∧some k≠v.ownBlock) x c
theorem xz{sz:Nat}{rows:List (List Value)}(h:(raw sz).R e w base ok v rows):(raw sz).R e w base (fun k=>some k=v.ownBlock) v rows:=Tz rfl h
theorem Lm{sz:Nat}{rows:List (List Value)}(h:(raw sz).R e w base ok v rows):(raw sz).R e w base (fun _=>True) v rows:=bJ h (fun _ _=>trivial)
theorem R_N(h:d.R e w base ok v xs):N d e w base ok v xs:=by
 obtain⟨h0,inner,ho,hr⟩:=h;refine⟨h0,chunks d.sz xs.length inner,fh _ _ _,⟨fun k hk=>hk.symm,inner,by rw[fh];exact ho,Gg hr (fun x c hp=>⟨d.l9 (d.gh hp),d.lM (d.gh hp)⟩)⟩,fun j x c hx hc=>?_⟩;rw[oV hc];exact TG (hr.2 j x hx)
theorem WC(d:Kd α)(e:Nat)(w:World)(base:Nat)(ok:Nat→Prop):N d e w base ok (.slice none 0 0) []:=R_N (lN _ _ _ _ _)
theorem kF(h:N d e w base ok v xs)(jo:∀k,ok k→ok' k):N d e w base ok' v xs:=by
 obtain⟨h0,rows,hl,hR,hf⟩:=h;exact⟨fun k hk=>jo k (h0 k hk),rows,hl,hR,fun j x c hx hc=>rX (hf j x c hx hc) (fun k hk=>⟨jo k hk.1,hk.2⟩)⟩
theorem Zu(h:N d e w base ok v xs):∀k,v.ownBlock=some k→k<w.heap.size:=by
 obtain⟨_,rows,_,hR,_⟩:=h;exact pM hR
theorem Ln(h:N d e w base ok v xs):∀k,v.ownBlock=some k→∃cells,w.heap[k]? =some (.cells cells e (0,0)):=by
 obtain⟨_,rows,_,hR,_⟩:=h;exact gz hR
theorem Dw(h:N d e w base ok v xs)(jo:∀k,ok k→k≠g):some g≠v.ownBlock:=fun he=>jo g (h.1 g he.symm) rfl
theorem vC(h:N d e w base ok v xs):N d e w base (fun k=>ok k∧k<w.heap.size) v xs:=by
 have cX:=Zu h;obtain⟨h0,rows,hl,hR,hf⟩:=h;exact⟨fun k hk=>⟨h0 k hk,cX k hk⟩,rows,hl,hR,fun j x c hx hc=>rX (Aq (hf j x c hx hc)) (fun k hk=>⟨⟨hk.1.1,hk.2⟩,hk.1.2⟩)⟩
theorem Lo{base':Nat}(h:N d e w base ok v xs)(hb:base'≤base):N d e w base' ok v xs:=by
 obtain⟨h0,rows,hl,hR,hf⟩:=h;exact⟨h0,rows,hl,bO hR hb,hf⟩
theorem As(h:N d e w base ok v xs)(hm:∀k,ok k→k<w.heap.size→w1.heap[k]? =w.heap[k]?):N d e w1 base ok v xs:=by
 obtain⟨h0,rows,hl,hR,hf⟩:=h;exact⟨h0,rows,hl,fQ hR (fun k hk cX=>hm k (h0 k hk.symm) cX),fun j x c hx hc=>vB (hf j x c hx hc) (fun k hk cX=>hm k hk.1 cX)⟩
theorem zt(h:N d e w base ok v xs)(hb:Below w.heap.size w w1):N d e w1 base ok v xs:=As h (fun k _ hk=>hb.block k hk)
theorem mY(h:N d e w base ok v xs)(o:Obj):N d e (w.alloc o) base ok v xs:=zt h (ab (Below.refl _ _) o)
theorem lF(h:N d e w base ok v xs):N d e w.drew base ok v xs:=zt h (dF (Below.refl _ _))
theorem lO(h:N d e w base ok v xs){p:Addr}(jo:∀k,ok k→k≠p.block)(u:Value):N d e (w.setCell p u) base ok v xs:=As h (fun k ho _=>Below.heap_setCell w p u k (jo k ho))
theorem Au(h:N d e W base ok v xs)(eQ:∀k,u.ownBlock=some k→W.heap.size≤k)(hb:Below W.heap.size W w1):N d e w1 base (fun k=>ok k∧some k≠u.ownBlock) v xs:=
 kF (zt (vC h) hb) (fun k hk=>⟨hk.1,fun he=>by have:=eQ k he.symm;have:=hk.2;omega⟩)
theorem mZ(h:N d e w base ok v xs):∃A c,v= .slice A xs.length c:=by
 obtain⟨_,rows,hl,hR,_⟩:=h;obtain⟨A,c,he⟩:=bm hR;exact⟨A,c,by rw[he,hl]⟩
theorem uL(h:N d e w base ok v xs)(hp:0<xs.length):∃g cap,v= .slice (some ⟨g,0,none⟩) xs.length cap∧base≤g∧g<w.heap.size∧∃cells,w.heap[g]? =some (.cells cells e (0,0)):=by
 obtain⟨_,rows,hl,hR,_⟩:=h;rw[←hl] at hp⊢;exact Aj hR hp
theorem gX{n c:Nat}(h:N d e w base ok (.slice A n c) xs):n=xs.length∧n≤c∧d.C w A xs.length xs:=by
 obtain⟨_,rows,hl,hR,hf⟩:=h;obtain⟨hn,hc,hC⟩:=aW hR;refine⟨by omega,hc,?_⟩;rw[hl] at hC;refine⟨rfl,hC.2.1,fun hp=>?_⟩;obtain⟨ad,he,iJ⟩:=hC.2.2 hp;refine⟨ad,he,fun j p hj=>?_⟩;have Dn:j<rows.length:=by have:=(List.getElem?_eq_some_iff.1 hj).1;omega
 obtain⟨c',oK,hK,lZ⟩:=iJ j _ (List.getElem?_eq_getElem Dn);have hk:=sW (hf j p _ hj (List.getElem?_eq_getElem Dn));refine⟨c',oK,?_,lZ⟩;rw[show c'=rows[j] from hK.1];exact hk
theorem N_F{n:Nat}(h:N d e w base ok (.slice A n cc) xs):F d w ok A n xs:=fun W' hW=>by
 have h2:=gX (As h hW);rw[h2.1];exact h2.2.2
theorem rY{n cap:Nat}(h:N d e W base ok (.slice (some ⟨g,0,none⟩) n cap) xs)(z:α)(i:Int)(h0:0≤i)(h1:i<n):
 ∃c,c.length=d.sz∧FK d W (fun k=>ok k∧k≠g) (xs.getD i.toNat z) c∧(∀j u,c[j]? =some u→W.cell? ⟨g,i.toNat*d.sz+j,none⟩=some u)∧∀j,W.frozen? ⟨g,i.toNat*d.sz+j,none⟩=false:=by
 obtain⟨_,rows,hl,hR,hf⟩:=h;have hn:=(aW hR).1;obtain⟨c,oK,hM,lZ,Ja⟩:=O' hR [] i h0 h1;have OL:i.toNat<rows.length:=by omega
 have adr:i.toNat<xs.length:=by omega
 have hc:c=rows[i.toNat]:=by
  have h2:=hM.1
  rwa [List.getD_eq_getElem?_getD,List.getElem?_eq_getElem OL] at h2
 refine⟨c,oK,?_,lZ,Ja⟩;rw[List.getD_eq_getElem?_getD,List.getElem?_eq_getElem adr];exact rX (hf _ _ _ (List.getElem?_eq_getElem adr) (by rw[hc];exact List.getElem?_eq_getElem OL)) (fun k hk=>⟨hk.1,fun he=>hk.2 (by rw[he];simp [Value.ownBlock])⟩)
theorem WD{ad:Addr}{n cap:Nat}(h:N d e W base ok (.slice (some ad) n cap) xs)(z:α)(i:Int)(h0:0≤i)(h1:i<n):
 ∃c,c.length=d.sz∧FK d W (fun k=>ok k∧some k≠(Value.slice (some ad) n cap).ownBlock) (xs.getD i.toNat z) c∧∀j u,c[j]? =some u→W.cell? (ad.add (i.toNat*d.sz+j))=some u:=by
 obtain⟨g,rfl⟩:∃g,ad=⟨g,0,none⟩:=by
  obtain⟨_,rows,_,hR,_⟩:=h;exact Zl hR
 obtain⟨c,oK,hM,lZ,_⟩:=rY h z i h0 h1;refine⟨c,oK,rX hM (fun k hk=>⟨hk.1,fun he=>hk.2 (by simpa [Value.ownBlock] using he)⟩),fun j u hu=>?_⟩;rw[Zb,Nat.zero_add];exact lZ j u hu
end
end Kd
end Go.Proofs.aa.ag
namespace Go.Proofs.aa.ag
open Go.RowKit


end Go.Proofs.aa.ag
namespace Go.Proofs.aa.ag
open Go.RowKit
section
variable {P:Program}{d:Nat}{xs ys:Array Value}{f:Field}{fs:List Field}{a b:Value}{r s:Bool}{w:World}
theorem qP(hn:(f.name== "_")=false)(ha:(part f.type xs f.offset).run P w= .ok a w)(hb:(part f.type ys f.offset).run P w= .ok b w)(he:(Op.equalIn d f.type a b).run P w= .ok r w):(Op.eqFields d xs ys [f]).run P w= .ok r w:=by
 have hn':f.name≠ "_":=by simpa using hn
 simp only[Op.eqFields,if_pos hn',Sem.run_bind,ha,hb,he,Result.andThen_ok];cases r<;>simp
theorem gG(hn:(f.name== "_")=false)(ha:(part f.type xs f.offset).run P w= .ok a w)(hb:(part f.type ys f.offset).run P w= .ok b w)(he:(Op.equalIn d f.type a b).run P w= .ok r w)(hr:(Op.eqFields d xs ys fs).run P w= .ok s w):(Op.eqFields d xs ys (f::fs)).run P w= .ok (r&&s) w:=by
 have hn':f.name≠ "_":=by simpa using hn
 rw[Op.eqFields];simp only[if_pos hn',Sem.run_bind,ha,hb,he,Result.andThen_ok];cases r
 ·simp
 ·simpa using hr
theorem xA{t:TypeId}{fs:Array Field}(hu:P.underlying t=some (.struct fs))(hp:P.stoodInHeld t=false)(h:(Op.eqFields d xs ys fs.toList).run P w= .ok r w):(Op.equalIn (d+1) t (.agg xs) (.agg ys)).run P w= .ok r w:=by
 have hf:P.fieldsOf t=fs:=by simp [Program.fieldsOf,hu]
 rw[run_equalIn_struct (P:=P) w d t xs ys (by rw[hf];exact hu) hp,hf];exact h
end
end Go.Proofs.aa.ag
namespace Go.Proofs.aa.ag
theorem fg.one{α:Type}{R:α→List Value→Prop}{ps:List α}{cs:List Value}{p:α}{v:Value}(hp:R p [v])(h:fg R 1 ps cs):fg R 1 (p::ps) (v::cs):=by
 refine⟨by simp [h.1],fun j q hq=>?_⟩;cases j with
 |zero=>
  simp only[List.getElem?_cons_zero,Option.some.injEq] at hq;subst hq;simpa using hp
 |succ j=>
  simp only[List.getElem?_cons_succ] at hq;have h1:=h.2 j q hq;simpa [Nat.mul_one] using h1
theorem fg.front{α:Type}{R:α→List Value→Prop}{size:Nat}{ps:List α}{cs c all:List Value}{p:α}(hp:R p c)(hc:c.length=size)(h:fg R size ps cs)(ha:c++cs=all):fg R size (p::ps) all:=by
 subst ha;refine⟨by rw[List.length_append,hc,h.1,List.length_cons,Nat.succ_mul,Nat.add_comm],fun j q hq=>?_⟩;cases j with
 |zero=>
  simp only[List.getElem?_cons_zero,Option.some.injEq] at hq;subst hq;rw[Nat.zero_mul,List.drop_zero,List.take_append_of_le_length (by omega),List.take_of_length_le (by omega)];exact hp
 |succ j=>
  simp only[List.getElem?_cons_succ] at hq;have h1:=h.2 j q hq;rw[Nat.succ_mul,List.drop_append,List.drop_of_length_le (by rw[hc];exact Nat.le_add_left _ _),List.nil_append,hc,Nat.add_sub_cancel];exact h1
theorem fg.c2{α:Type}{R:α→List Value→Prop}{ps:List α}{cs:List Value}{p:α}{va vb:Value}(hp:R p [va,vb])(h:fg R 2 ps cs):fg R 2 (p::ps) (va::vb::cs):=fg.front hp rfl h rfl
theorem fg.c3{α:Type}{R:α→List Value→Prop}{ps:List α}{cs:List Value}{p:α}{va vb vc:Value}(hp:R p [va,vb,vc])(h:fg R 3 ps cs):fg R 3 (p::ps) (va::vb::vc::cs):=fg.front hp rfl h rfl
theorem fg.c4{α:Type}{R:α→List Value→Prop}{ps:List α}{cs:List Value}{p:α}{va vb vc vd:Value}(hp:R p [va,vb,vc,vd])(h:fg R 4 ps cs):fg R 4 (p::ps) (va::vb::vc::vd::cs):=fg.front hp rfl h rfl
theorem fg.c5{α:Type}{R:α→List Value→Prop}{ps:List α}{cs:List Value}{p:α}{va vb vc vd ve:Value}(hp:R p [va,vb,vc,vd,ve])(h:fg R 5 ps cs):fg R 5 (p::ps) (va::vb::vc::vd::ve::cs):=fg.front hp rfl h rfl
theorem fg.c6{α:Type}{R:α→List Value→Prop}{ps:List α}{cs:List Value}{p:α}{va vb vc vd ve vf:Value}(hp:R p [va,vb,vc,vd,ve,vf])(h:fg R 6 ps cs):fg R 6 (p::ps) (va::vb::vc::vd::ve::vf::cs):=fg.front hp rfl h rfl
end Go.Proofs.aa.ag
namespace Go.Proofs.aa.ag
open Go.RowKit
end Go.Proofs.aa.ag
namespace Go.Proofs.aa.ao
end Go.Proofs.aa.ao
namespace Go.Proofs.aa.ag
open Go.RowKit
section
variable {P:Program}{ops:Array Oper}{rest:List Oper}{o:Oper}{a:Act}{Q:Exit→Act→World→Prop}{W:World}
theorem dy(hw:Region.wanted o (yielded ops a.tmps)=true)(h:wpList P ops Q ({o with guard:=none}::rest) a W):wpList P ops Q (o::rest) a W:=by
 have h1:Region.wanted {o with guard:=none} (yielded ops a.tmps)=true:=rfl;unfold wpList at h⊢;rw[if_pos h1] at h;rw[if_pos hw];exact h
end
end Go.Proofs.aa.ag
namespace Go.Proofs.aa.ag
open Go.RowKit
namespace Kd
section
variable {α:Type}{d:Kd α}{e base n cap g:Nat}{ok ok' kc:Nat→Prop}{w w1 W:World}{v v1:Value}{xs ys:List α}
theorem Js{rows news:List (List Value)}(h0:∀k,v.ownBlock=some k→ok k)(hl:rows.length=xs.length)(hf:∀(j:Nat)(x:α)(c:List Value),xs[j]? =some x→rows[j]? =some c→FK d W (fun k=>ok k∧some k≠v.ownBlock) x c)
 (Pm:news.length=ys.length) (hf2:∀(j:Nat)(x:α)(c:List Value),ys[j]? =some x→news[j]? =some c→FK d W kc x c) (oQ:∀k,kc k→ok k∧some k≠v.ownBlock) (gj:∀k,W.heap.size≤k→ok k)
 (hR:(raw d.sz).R e w1 base (fun _=>True) v1 (rows++news)) (hg:W.grownBy w1 v.ownBlock) (dH:v1.ownBlock=v.ownBlock∨∃b,v1.ownBlock=some b∧W.heap.size≤b):N d e w1 base ok v1 (xs++ys):=by
 have mA:∀k,some k≠v.ownBlock→k<W.heap.size→some k≠v1.ownBlock:=by
  intro k hk cX;rcases dH with dH|⟨b,hb,hle⟩
  ·rw[dH];exact hk
  ·rw[hb];intro he;injection he with he
   omega
 have step:∀{x:α}{c:List Value}{o:Nat→Prop},FK d W o x c→(∀k,o k→ok k∧some k≠v.ownBlock)→FK d w1 (fun k=>ok k∧some k≠v1.ownBlock) x c:=by
  intro x c o hq ho;exact rX (vB (Aq hq) (fun k hk cX=>hg.block k cX (ho k hk.1).2)) (fun k hk=>⟨(ho k hk.1).1,mA k (ho k hk.1).2 hk.2⟩)
 refine⟨fun k hk=>?_,rows++news,by rw[List.length_append,List.length_append,hl,Pm],xz hR,fun j x c hx hc=>?_⟩
 ·rcases dH with dH|⟨b,hb,hle⟩
  ·exact h0 k (dH▸hk)
  ·rw[hb] at hk;injection hk with hk
   exact gj k (by omega)
 ·rcases Nat.lt_or_ge j xs.length with cX|F9
  ·rw[List.getElem?_append_left cX] at hx;rw[List.getElem?_append_left (by omega)] at hc;exact step (hf j x c hx hc) (fun _ hk=>hk)
  ·rw[List.getElem?_append_right F9] at hx;rw[List.getElem?_append_right (by omega),hl] at hc;exact step (hf2 _ x c hx hc) oQ
theorem Zv{rows:List (List Value)}(hR:(raw d.sz).R e w1 base (fun k=>k=W.heap.size) v1 rows)(hg:W.grownBy w1 none)(dH:∃b,v1.ownBlock=some b∧W.heap.size≤b)(hl:rows.length=xs.length)(hf:∀(j:Nat)(x:α)(c:List Value),xs[j]? =some x→rows[j]? =some c→FK d W kc x c)
 (jo:∀k,kc k→ok k) (gj:ok W.heap.size):N d e w1 base ok v1 xs:=by
 obtain⟨b,hb,hle⟩:=dH;refine⟨fun k hk=>by rw[hR.1 k hk];exact gj,rows,hl,xz hR,fun j x c hx hc=>?_⟩;refine rX (vB (Aq (hf j x c hx hc)) (fun k hk cX=>hg.block k cX (by simp))) (fun k hk=>⟨jo k hk.1,fun he=>?_⟩);rw[hb] at he;injection he with he
 have:=hk.2;omega
theorem M3{rows:List (List Value)}{i:Int}{x':α}{c':List Value}(h0:∀k,(Value.slice (some ⟨g,0,none⟩) n cap).ownBlock=some k→ok k)(hl:rows.length=xs.length)(hf:∀(j:Nat)(x:α)(c:List Value),xs[j]? =some x→rows[j]? =some c→FK d W (fun k=>ok k∧some k≠(Value.slice (some ⟨g,0,none⟩) n cap).ownBlock) x c)
 (hR:(raw d.sz).R e w1 base (fun _=>True) (.slice (some ⟨g,0,none⟩) n cap) (rows.set i.toNat c')) (hg:W.grownBy w1 (some g)) (hM:FK d W kc x' c') (oQ:∀k,kc k→ok k∧k≠g):N d e w1 base ok (.slice (some ⟨g,0,none⟩) n cap) (xs.set i.toNat x'):=by
 have Lh:some g=(Value.slice (some ⟨g,0,none⟩) n cap).ownBlock:=by simp [Value.ownBlock]
 refine⟨h0,rows.set i.toNat c',by rw[List.length_set,List.length_set,hl],xz hR,fun j x c hx hc=>?_⟩;have Dn:j<xs.length:=by have:=(List.getElem?_eq_some_iff.1 hx).1;rwa [List.length_set] at this
 by_cases BW:j=i.toNat
 ·subst BW;rw[List.getElem?_set_self Dn] at hx;rw[List.getElem?_set_self (by omega)] at hc;injection hx with hx
  injection hc with hc
  rw[←hx,←hc];exact rX (vB hM (fun k hk cX=>hg.block k cX (fun he=>(oQ k hk).2 (by injection he)))) (fun k hk=>⟨(oQ k hk).1,fun he=>(oQ k hk).2 (by rw[←Lh] at he;injection he)⟩)
 ·rw[List.getElem?_set_ne (Ne.symm BW)] at hx hc;exact vB (hf j x c hx hc) (fun k hk cX=>hg.block k cX (by rw[Lh];exact hk.2))
theorem Lp(h:N d e W base ok (.slice (some ⟨g,0,none⟩) n cap) xs)(i:Int)(h0:0≤i)(h1:i<n){c oU:List Value}{j:Nat}(oK:c.length=d.sz)(lZ:∀j u,c[j]? =some u→W.cell? ⟨g,i.toNat*d.sz+j,none⟩=some u)
 (hj:j+oU.length≤d.sz) {x':α} (hM:FK d W kc x' (c.take j++oU++c.drop (j+oU.length))) (oQ:∀k,kc k→ok k∧k≠g):
 N d e (W.setCells g (i.toNat*d.sz+j) oU) base ok (.slice (some ⟨g,0,none⟩) n cap) (xs.set i.toNat x')∧W.grownBy (W.setCells g (i.toNat*d.sz+j) oU) (some g):=by
 obtain⟨mB,rows,hl,hR,hf⟩:=h;obtain⟨h2,h3⟩:=Wx (Lm hR) i h0 h1 (c:=c) (oU:=oU) (j:=j) (x':=c.take j++oU++c.drop (j+oU.length)) (kc:=fun _=>False) oK lZ hj ⟨rfl,d.l9 (sW hM),d.lM (sW hM)⟩ (fun _ hk=>hk.elim);exact⟨M3 mB hl hf h2 h3 hM oQ,h3⟩
theorem M4{Rr:α→List Value→Prop}{sz m:Nat}{A:Option Addr}(h:dD Rr sz W A m ys)(hR:∀x c,Rr x c→c.length=sz∧∀u∈c,u.oneCell'=true):
 ∃news:List (List Value),news.length=ys.length∧dD (fun x cs=>cs=x∧cs.length=sz∧∀u∈cs,u.oneCell'=true) sz W A m news∧∀(j:Nat)(x:α)(c:List Value),ys[j]? =some x→news[j]? =some c→Rr x c:=by
 rcases Nat.eq_zero_or_pos m with h0|hp
 ·have hy:ys=[]:=List.eq_nil_of_length_eq_zero (h.1.trans h0);subst hy;exact⟨[],rfl,⟨h0▸rfl,h.2.1,fun hp=>by omega⟩,fun j x c hx=>by simp at hx⟩
 ·obtain⟨ad,rfl,_⟩:=h.2.2 hp;obtain⟨inner,hr,hc⟩:=dD.Ji h;refine⟨chunks sz ys.length inner,fh _ _ _,⟨by rw[fh];exact h.1,h.2.1,fun _=>⟨ad,rfl,fun j p hj=>?_⟩⟩,fun j x c hx lZ=>?_⟩
  ·have Dn:j<ys.length:=by have:=(List.getElem?_eq_some_iff.1 hj).1;rwa [fh] at this
   have hpe:=oV hj;have hq:=hR _ _ (hr.2 j _ (List.getElem?_eq_getElem Dn));rw[←hpe] at hq;refine⟨p,hq.1,⟨rfl,hq⟩,fun i u hu=>?_⟩
   have hu2:inner[j*sz+i]? =some u:=by
    rw[hpe,List.getElem?_take] at hu;split at hu
    ·rw[List.getElem?_drop] at hu;exact hu
    ·cases hu
   exact hc _ u hu2
  ·rw[oV lZ];exact hr.2 j x hx
end
section
variable {P:Program}{ops:Array Oper}{rest:List Oper}{o:Oper}{a:Act}{Q:Exit→Act→World→Prop}{Kc:Act→World→Prop}{α:Type}
theorem Cc(d:Kd α){w0 W:World}(base:Nat)(um:o.guard=none)(s x:Operand)(t e:TypeId)(z:Value)(bytes:Nat)
 (ho:o.op= .call {callee:= .builtin .append,args:= #[s,x],argTypes:= #[t,t]})
 (ht:P.underlying t=some (.slice e)) (kE:(P.info? e).map (fun i=>(i.zero,i.size,i.bytes))=some (some z,d.sz,bytes)) (hz:z.cells.size=d.sz) (qC:0<d.sz) (uh:0<bytes)
 (v:Value) (xs ys:List α) (A:Option Addr) (m c:Nat) (ok kc:Nat→Prop) (hs:a.eval s=v) (hx:a.eval x= .slice A m c)
 (HO:N d e W base ok v xs) (HR:F d W kc A m ys) (oQ:∀k,kc k→ok k∧some k≠v.ownBlock) (gj:∀k,W.heap.size≤k→ok k)
 (HB:Below base w0 W) (eQ:base≤W.heap.size) (hl:(xs.length+m)*bytes≤140737488355328)
 (h:∀v1 w1,N d e w1 base ok v1 (xs++ys)→Below base w0 w1→W.grownBy w1 v.ownBlock→(v1.ownBlock=v.ownBlock∨∃b,v1.ownBlock=some b∧W.heap.size≤b)→wpList P ops Q rest (a.put o.dst v1) w1):
 wpList P ops Q (o::rest) a W:=by
 obtain⟨h0,rows,hlr,hR,hf⟩:=HO;obtain⟨news,WB,hnr,hnf⟩:=M4 (Zt HR) (fun y c hk=>⟨d.l9 (sW hk),d.lM (sW hk)⟩);refine ep (raw d.sz) base um s x t e z bytes ho ht kE hz qC uh v rows news A m c (fun _=>True) (fun _=>False) hs hx (Lm hR) hnr (fun _ _ hk=>hk) (fun _ hk=>hk.elim) (fun _ _=>trivial) HB eQ (by rw[hlr];exact hl) ?_;intro v1 w1 hr hb hg dH;exact h v1 w1 (Js h0 hlr hf WB hnf oQ gj hr hg dH) hb hg dH
theorem ads(d:Kd α){w0 W:World}(base e:Nat)(um:o.guard=none){N':Tmp}(_hd:o.dst=some N'){xs:List α}{inner:List Value}{ok kc:Nat→Prop}
 (iI:(execOp a.eval o).run P W= .ok (.value (.slice (some ⟨W.heap.size,0,none⟩) xs.length xs.length)) (W.alloc (.cells inner.toArray e)))
 (F6:fg (FK d W kc) d.sz xs inner) (jo:∀k,kc k→ok k) (gj:ok W.heap.size) (HB:Below base w0 W) (eQ:base≤W.heap.size) (hm:xs.length≤9223372036854775807)
 (h:∀v1 w1,N d e w1 base ok v1 xs→Below base w0 w1→W.grownBy w1 none→(∃b,v1.ownBlock=some b∧W.heap.size≤b)→wpList P ops Q rest (a.put o.dst v1) w1):
 wpList P ops Q (o::rest) a W:=by
 refine uq (raw d.sz) base e um _hd (xs:=chunks d.sz xs.length inner) (inner:=inner) (ok:=fun k=>k=W.heap.size) (kc:=fun _=>False) (by rw[fh];exact iI) (Gg F6 (fun y c hk=>⟨d.l9 (sW hk),d.lM (sW hk)⟩)) (fun _ hk=>hk.elim) rfl HB eQ (by rw[fh];exact hm) ?_;intro v1 w1 hr hb hg dH;exact h v1 w1 (Zv hr hg dH (fh _ _ _) (fun j y c hy hc=>by rw[oV hc];exact F6.2 j y hy) jo gj) hb hg dH
end
end Kd
end Go.Proofs.aa.ag
namespace Go.Proofs.aa.ay
open Go.RowKit Go.Proofs.aa.ag
theorem bD(k k':IntKind)(x y:Int):Builtin.max2 (.int k x) (.int k' y)=pure (.int k (if x<y then y else x)):=by simp only[Builtin.max2,gt_iff_lt]
theorem bw(k k':IntKind)(x y:Int):Builtin.min2 (.int k x) (.int k' y)=pure (.int k (if y<x then y else x)):=by simp only[Builtin.min2]
theorem cj(ir:Array TypeId)(ty:TypeId)(a b:Value):Builtin.max_ ir ty #[a,b]=(Builtin.max2 a b>>=fun s=>pure s):=by simp only[Builtin.max_,List.foldlM_cons,List.foldlM_nil]
theorem bV(ir:Array TypeId)(ty:TypeId)(a b:Value):Builtin.min_ ir ty #[a,b]=(Builtin.min2 a b>>=fun s=>pure s):=by simp only[Builtin.min_,List.foldlM_cons,List.foldlM_nil]
theorem bj(ir:Array TypeId)(ty:TypeId)(a b c:Value):Builtin.max_ ir ty #[a,b,c]=(Builtin.max2 a b>>=fun s=>Builtin.max2 s c>>=fun s=>pure s):=by simp only[Builtin.max_,List.foldlM_cons,List.foldlM_nil]
theorem bk(ir:Array TypeId)(ty:TypeId)(a b c:Value):Builtin.min_ ir ty #[a,b,c]=(Builtin.min2 a b>>=fun s=>Builtin.min2 s c>>=fun s=>pure s):=by simp only[Builtin.min_,List.foldlM_cons,List.foldlM_nil]
theorem bG(ir:Array TypeId)(ty:TypeId)(a b c d:Value):Builtin.max_ ir ty #[a,b,c,d]=(Builtin.max2 a b>>=fun s=>Builtin.max2 s c>>=fun s=>Builtin.max2 s d>>=fun s=>pure s):=by simp only[Builtin.max_,List.foldlM_cons,List.foldlM_nil]
theorem bH(ir:Array TypeId)(ty:TypeId)(a b c d:Value):Builtin.min_ ir ty #[a,b,c,d]=(Builtin.min2 a b>>=fun s=>Builtin.min2 s c>>=fun s=>Builtin.min2 s d>>=fun s=>pure s):=by simp only[Builtin.min_,List.foldlM_cons,List.foldlM_nil]
end Go.Proofs.aa.ay
namespace Go.Proofs.aa.ag
open Go.RowKit
section
variable {P:Program}{ops:Array Oper}{rest:List Oper}{o:Oper}{a:Act}{Q:Exit→Act→World→Prop}{W:World}
theorem dm{b:Builtin}{xs:Array Operand}{ts:Array TypeId}(_ho:o.op= .call {callee:= .builtin b,args:=xs,argTypes:=ts})(h:wpList P ops Q (o::rest) a W):wpList P ops Q (o::rest) a W:=h
end
theorem Cd{P:Program}{f:FuncId}{args args':Array Value}{w:World}{Q:Ending→World→Prop}(h:args=args')(hc:Calls P f args' w Q):Calls P f args w Q:=h▸hc
def mn(a b:Int):Int:=if b<a then b else a
theorem Jt(w:World)(n:Nat):w.drewN n=w.drewN n:=rfl
end Go.Proofs.aa.ag
namespace Go.Proofs.aa.ag
open Go.RowKit
namespace Kd
def V{α:Type}(d:Kd α)(_e:Nat)(W:World)(apl:Nat)(ok:Nat→Prop)(v:Value)(xs:List α):Prop:=∃A c,v= .slice A xs.length c∧xs.length≤c∧F d W ok A xs.length xs
section
variable {α β:Type}{d:Kd α}{e base base' n m c g N' lo hi:Nat}{ok ok' S:Nat→Prop}{w W w1:World}{A:Option Addr}{ad:Addr}{u v v1:Value}{xs:List α}
theorem yt(h:V d e W base ok v xs)(hF:∀A,F d W ok A xs.length xs→F d w1 ok' A xs.length xs):V d e w1 base' ok' v xs:=by
 obtain⟨A,c,hv,hl,hf⟩:=h;exact⟨A,c,hv,hl,hF A hf⟩
theorem za(hl:xs.length≤c)(hf:F d W ok A xs.length xs):V d e W base ok (.slice A xs.length c) xs:=⟨A,c,rfl,hl,hf⟩
theorem me(h:V d e W base ok v xs):∃A c,v= .slice A xs.length c:=by
 obtain⟨A,c,hv,_⟩:=h;exact⟨A,c,hv⟩
theorem Ce(h:V d e W base ok (.slice A n c) xs):n=xs.length∧n≤c∧F d W ok A xs.length xs:=by
 obtain⟨A',c',hv,hl,hf⟩:=h;injection hv with ha hn hc
 subst ha;subst hc;exact⟨hn,by rw[hn];exact hl,hf⟩
theorem eT(h:V d e W base ok (.slice A n c) xs):n=xs.length∧n≤c∧d.C W A xs.length xs:=⟨(Ce h).1,(Ce h).2.1,uu (Ce h).2.2⟩
theorem R_V(h:d.R e W base ok v xs):V d e W base' ok v xs:=by
 obtain⟨A,c,rfl⟩:=bm h;exact⟨A,c,rfl,(aW h).2.1,TF h⟩
theorem iF(h:V d e W base ok v xs)(jo:∀k,ok k→ok' k):V d e W base ok' v xs:=yt h (fun _ hf=>jB hf jo)
theorem kS(h:V d e W base ok v xs)(hb:Below W.heap.size W w1):V d e w1 base ok v xs:=yt h (fun _ hf=>ki hf hb)
theorem dz(h:V d e W base ok v xs):V d e W.drew base ok v xs:=yt h (fun _ hf=>Zr hf)
theorem cT(h:V d e W base ok v xs)(m:Nat):V d e (W.drewN m) base ok v xs:=yt h (fun _ hf=>TD hf m)
theorem sX(h:V d e W base ok v xs){p:Addr}(jo:∀k,ok k→k≠p.block)(u:Value):V d e (W.setCell p u) base ok v xs:=yt h (fun _ hf=>adp hf jo u)
theorem TI(h:V d e W base (fun k=>ok k∧some k≠u.ownBlock) v xs)(hg:W.grownBy w1 u.ownBlock)(dH:v1.ownBlock=u.ownBlock∨∃b,v1.ownBlock=some b∧W.heap.size≤b):V d e w1 base (fun k=>ok k∧some k≠v1.ownBlock) v xs:=yt h (fun _ hf=>TE hf hg dH)
theorem oW(h:V d e W base (fun k=>ok k∧some k≠v.ownBlock) u xs)(hg:W.grownBy w1 v.ownBlock)(dH:v1.ownBlock=v.ownBlock∨∃b,v1.ownBlock=some b∧W.heap.size≤b):V d e w1 base (fun k=>ok k∧some k≠v1.ownBlock) u xs:=TI h hg dH
theorem nH(h:V d e W base ok v xs)(eQ:∀k,u.ownBlock=some k→W.heap.size≤k)(hb:Below W.heap.size W w1):V d e w1 base (fun k=>ok k∧some k≠u.ownBlock) v xs:=yt h (fun _ hf=>Pj hf eQ hb)
theorem Gh(h:V d e W base ok v xs)(a:Nat)(ha:W.heap.size≤a):V d e W base (fun k=>ok k∧k≠a) v xs:=yt h (fun _ hf=>Pk hf a ha)
theorem Dx(h:F d W ok A xs.length xs)(hm:m≤xs.length):F d W ok A (xs.take m).length (xs.take m):=Ph h (fun _ hC=>xu hC hm)
theorem WE(h:F d W ok A xs.length xs)(hm:m≤xs.length)(hc:xs.length≤c):F d W ok (if c=m then A else A.map (·.add (m*d.sz))) (xs.drop m).length (xs.drop m):=Ph h (fun _ hC=>Jl hC hm hc)
theorem adt(h:F d W ok A xs.length xs)(h1:lo≤hi)(h2:hi≤xs.length)(hc:xs.length≤c):F d W ok (if c=lo then A else A.map (·.add (lo*d.sz))) ((xs.take hi).drop lo).length ((xs.take hi).drop lo):=Ph h (fun _ hC=>adg hC h1 h2 hc)
theorem jX{l:List α}{cs:List Value}(h:FK (Kd.slice e d) W ok l cs):∃A c,cs=[.slice A l.length c]∧l.length≤c∧F d W ok A l.length l:=by
 obtain⟨A,c,rfl,hl,_⟩:=sW h;refine⟨A,c,rfl,hl,fun W' hW=>?_⟩;obtain⟨A',c',he,_,g'⟩:=h W' hW;injection he with he _
 injection he with ha _ _
 rw[ha];exact g'
theorem sY{l:List α}(hl:l.length≤c)(hf:F d W ok A l.length l):FK (Kd.slice e d) W ok l [.slice A l.length c]:=fun W' hW=>⟨A,c,rfl,hl,hf W' hW⟩
theorem rZ{M:Nat→Prop}(h:d.R e w1 W.heap.size ok v xs)(hle:w.heap.size≤W.heap.size)(hM:∀k,w.heap.size≤k→M k):d.R e w1 W.heap.size (fun k=>M k∧ok k) v xs:=bJ (eH h) (fun k hk=>⟨hM k (Nat.le_trans hle hk.2.1),hk.1⟩)
end
end Kd
end Go.Proofs.aa.ag
