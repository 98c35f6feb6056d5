import Derived.Test.YtmhdcgmfbjcndaaGreatDoorB01
import Derived.Test.YtmhdcgmfbjcndaaGreatDoorB02
set_option linter.unusedVariables false
set_option linter.unusedSimpArgs false
set_option maxRecDepth 100000
set_option maxHeartbeats 8000000
namespace Go.Proofs.aa.ao
open Go.Proofs.aa.ag ae
def tP(md:Region.Mode)(o:Oper):List Nat:=(o.after.toList.filter (fun e=>Region.binds md e)).map (fun e=>e.on)
def Dt(md:Region.Mode)(ops:Array Oper)(i:Nat)(oi:Oper):List Nat:=(List.range ops.size).filter fun j=> !(j==i)&&match ops[j]? with
 |some oj=> !(oj.after.any (fun e=>Region.binds md e&&e.on==i)||oi.apart ops oj)
 |none=>false
def mb(md:Region.Mode)(ops:Array Oper):Bool×List (List Nat×List Nat):=(Region.noSelect ops,(List.range ops.size).map fun i=>match ops[i]? with
 |some o=>(tP md o,Dt md ops i o)
 |none=>([],[]))
def pR(T:List (List Nat×List Nat))(l:List Bool)(i:Nat):Bool:= !l.getD i true&&match T[i]? with
 |some r=>r.1.all (fun j=>l.getD j false)
 |none=>false
def Am(T:List (List Nat×List Nat))(l:List Bool):List Nat:=(List.range T.length).filter (pR T l)
def Gb(T:List (List Nat×List Nat))(l:List Bool)(i:Nat):Bool:=match T[i]? with
 |some r=>r.2.all (fun j=>l.getD j true)
 |none=>false
def zq(T:List (List Nat×List Nat))(l:List Bool):Bool:=(List.range T.length).all fun j=> !l.getD j false||match T[j]? with
 |some r=>r.1.all (fun k=>l.getD k false)
 |none=>true
def xx(T:List (List Nat×List Nat))(i:Nat):Nat→Nat→Bool
 |0,_=>false
 |fuel+1,d=>match T[d]? with
  |some r=>r.1.any fun j=>j==i||xx T i fuel j
  |none=>false
def Li(T:List (List Nat×List Nat))(l:List Bool)(ds:List Nat)(i:Nat):Bool:=ds.all fun d=>l.getD d true||xx T i T.length d
section
variable {md:Region.Mode}{ops:Array Oper}{T:Bool×List (List Nat×List Nat)}{l l' li lj lk:Array Bool}{ds:List Nat}{i j k:Nat}
theorem gd(l:Array Bool)(j:Nat)(b:Bool):l.getD j b=l.toList.getD j b:=by simp [Array.getD_eq_getD_getElem?,List.getD_eq_getElem?_getD]
theorem CA(o:Oper)(p:Nat→Bool):o.after.all (fun e=> !Region.binds md e||p e.on)=(tP md o).all p:=by
 unfold tP;rw[←Array.all_toList]
 induction o.after.toList with
 |nil=>rfl
 |cons e r ih=>
  rw[List.all_cons,ih,List.filter_cons];cases h:Region.binds md e<;>simp
theorem MY(o:Oper)(p:Nat→Bool):o.after.any (fun e=>Region.binds md e&&p e.on)=(tP md o).any p:=by
 unfold tP;rw[←Array.any_toList]
 induction o.after.toList with
 |nil=>rfl
 |cons e r ih=>
  rw[List.any_cons,ih,List.filter_cons];cases h:Region.binds md e<;>simp
theorem pS:(mb md ops).2.length=ops.size:=by simp [mb]
theorem tQ{o:Oper}(h:ops[i]? =some o):(mb md ops).2[i]? =some (tP md o,Dt md ops i o):=by
 have hi:=(Array.getElem?_eq_some_iff.1 h).1;unfold mb;rw[List.getElem?_map,List.getElem?_range hi,Option.map_some,h]
theorem tR(h:ops[i]? =none):(mb md ops).2[i]? =none:=by
 have hi:ops.size≤i:=Array.getElem?_eq_none_iff.1 h;exact List.getElem?_eq_none (by rw[pS];exact hi)
theorem Jp:pR (mb md ops).2 l.toList i=(!l.getD i true&&((ops[i]?).map (·.after.all fun e=> !Region.binds md e||l.getD e.on false)).getD false):=by
 unfold pR;rw[gd];cases h:ops[i]? with
 |none=>rw[tR h];rfl
 |some o=>
  rw[tQ h];simp only[Option.map_some,Option.getD_some];rw[←CA];simp only[gd]
theorem An:Region.ready md ops l=Am (mb md ops).2 l.toList:=by
 unfold Region.ready Am;rw[pS];refine List.filter_congr (fun i _=>?_);rw[Jp]
theorem Lj:Region.free md ops l i=Gb (mb md ops).2 l.toList i:=by
 unfold Region.free Gb;cases h:ops[i]? with
 |none=>rw[tR h]
 |some oi=>
  rw[tQ h];simp only[Dt];rw[List.all_filter]
  congr 1
  funext j;rw[gd];cases hj:ops[j]? with
  |none=>cases (j==i)<;>cases (l.toList.getD j true)<;>simp
  |some oj=>
   cases (j==i)<;>cases (l.toList.getD j true)<;>cases (oj.after.any (fun e=>Region.binds md e&&e.on==i)||oi.apart ops oj)<;>simp_all
theorem MZ:Region.vk md ops l=zq (mb md ops).2 l.toList:=by
 unfold Region.vk zq;rw[pS]
 congr 1
 funext j;rw[gd];cases h:ops[j]? with
 |none=>rw[tR h]
 |some o=>
  rw[tQ h];simp only;rw[←CA];simp only[gd]
theorem Gc:∀(fuel d:Nat),Region.nU md ops i fuel d=xx (mb md ops).2 i fuel d
 |0,_=>rfl
 |fuel+1,d=>by
  unfold Region.nU xx;cases h:ops[d]? with
  |none=>rw[tR h]
  |some o=>
   rw[tQ h];simp only;rw[←MY]
   congr 1
   funext e;rw[Gc fuel]
theorem Tx:Region.Le md ops l ds i=Li (mb md ops).2 l.toList ds i:=by
 unfold Region.Le Li;rw[pS]
 congr 1
 funext d;rw[gd,Gc]
theorem yr(h:pR T.2 l.toList i=true)(hT:mb md ops=T):(Region.ready md ops l).contains i=true:=by
 subst hT;rw[An];unfold Am;rw[List.contains_iff_mem,List.mem_filter,List.mem_range];refine⟨?_,h⟩;unfold pR at h;rw[Bool.and_eq_true] at h;cases hq:(mb md ops).2[i]? with
 |none=>rw[hq] at h;simp at h
 |some r=>exact(List.getElem?_eq_some_iff.1 hq).1
theorem Jq(h:(l.toList.set i true==l'.toList)=true):(l.setIfInBounds i true==l')=true:=by
 rw[beq_iff_eq] at h⊢;apply Array.ext';rw[Array.toList_setIfInBounds];exact h
def adh(T:Bool×List (List Nat×List Nat))(l l':List Bool)(i:Nat):Bool:=T.1&&Gb T.2 l i&&pR T.2 l i&&(l.set i true==l')
theorem cv(hT:mb md ops=T)(h:adh T l.toList l'.toList i=true):O2 md ops l l' i=true:=by
 simp only[adh,Bool.and_eq_true] at h;obtain⟨⟨⟨h1,h2⟩,h3⟩,h4⟩:=h;have h5:=yr h3 hT;have h6:=Jq h4;subst hT;simp only[O2,Bool.and_eq_true];exact⟨⟨⟨h1,by rw[Lj];exact h2⟩,h5⟩,h6⟩
def Pd(T:Bool×List (List Nat×List Nat))(ds:List Nat)(l l':List Bool)(i:Nat):Bool:=T.1&&Gb T.2 l i&&pR T.2 l i&&zq T.2 l&&Li T.2 l ds i&&(l.set i true==l')
theorem Ty(hT:mb md ops=T)(h:Pd T ds l.toList l'.toList i=true):Cw md ops ds l l' i=true:=by
 simp only[Pd,Bool.and_eq_true] at h;obtain⟨⟨⟨⟨⟨h1,h2⟩,h3⟩,h4⟩,h5⟩,h6⟩:=h;have h7:=yr h3 hT;have h8:=Jq h6;subst hT;simp only[Cw,Bool.and_eq_true];exact⟨⟨⟨⟨⟨h1,by rw[Lj];exact h2⟩,h7⟩,by rw[MZ];exact h4⟩,by rw[Tx];exact h5⟩,h8⟩
theorem fR(hT:mb md ops=T)(h:(Am T.2 l.toList==[i]&&l.toList.set i true==l'.toList)=true):sR md ops l l' i=true:=by
 simp only[Bool.and_eq_true] at h;obtain⟨h1,h2⟩:=h;subst hT;simp only[sR,Bool.and_eq_true];exact⟨by rw[An];exact h1,Jq h2⟩
theorem mc(hT:mb md ops=T)(h:(Am T.2 l.toList==[])=true):(Region.ready md ops l==[])=true:=by
 subst hT;rw[An];exact h
def Zj(B:List Nat)(d:Nat):List Nat→Nat
 |[]=>0
 |n::r=>(2^n|||(if n<d then B.getD n 0 else 0))|||Zj B d r
def kR(T:List (List Nat×List Nat))(B:List Nat):Bool:=(List.range T.length).all fun d=>match T[d]? with
 |some r=>(B.getD d 0|||Zj B d r.1)==Zj B d r.1
 |none=>false
theorem Lk{B:List Nat}{d i:Nat}:∀{ns:List Nat},(Zj B d ns).testBit i=true→∃n∈ns,n=i∨(n<d∧(B.getD n 0).testBit i=true)
 |[],h=>by simp [Zj] at h
 |n::r,h=>by
  unfold Zj at h;rw[Nat.testBit_or,Nat.testBit_or,Bool.or_eq_true,Bool.or_eq_true] at h;rcases h with(h|h)|h
  ·rw[Nat.testBit_two_pow] at h;exact⟨n,List.mem_cons_self,.inl (by simpa using h)⟩
  ·by_cases hn:n<d
   ·rw[if_pos hn] at h;exact⟨n,List.mem_cons_self,.inr ⟨hn,h⟩⟩
   ·rw[if_neg hn] at h;simp at h
  ·obtain⟨m,hm,h2⟩:=Lk h;exact⟨m,List.mem_cons_of_mem _ hm,h2⟩
theorem CB{T:List (List Nat×List Nat)}{B:List Nat}(hB:kR T B=true):∀(fuel d:Nat),d<fuel→d<T.length→(B.getD d 0).testBit i=true→xx T i fuel d=true
 |0,d,h,_,_=>by omega
 |fuel+1,d,h,hd,hb=>by
  have h1:=List.all_eq_true.1 hB d (List.mem_range.2 hd);cases hr:T[d]? with
  |none=>rw[hr] at h1;simp at h1
  |some r=>
   rw[hr] at h1;simp only[beq_iff_eq] at h1;have h2:(Zj B d r.1).testBit i=true:=by rw[←h1,Nat.testBit_or,hb,Bool.true_or]
   obtain⟨n,hn,h3⟩:=Lk h2;unfold xx;rw[hr];simp only;rw[List.any_eq_true];refine⟨n,hn,?_⟩;rcases h3 with rfl|⟨h4,h5⟩
   ·simp
   ·rw[CB hB fuel n (by omega) (by omega) h5,Bool.or_true]
def Wz(T:List (List Nat×List Nat))(B:List Nat)(l:List Bool)(ds:List Nat)(i:Nat):Bool:=ds.all fun d=>l.getD d true||(decide (d<T.length)&&(B.getD d 0).testBit i)
def WA(T:Bool×List (List Nat×List Nat))(B ds:List Nat)(l l':List Bool)(i:Nat):Bool:=T.1&&Gb T.2 l i&&pR T.2 l i&&zq T.2 l&&Wz T.2 B l ds i&&(l.set i true==l')
theorem fx{B:List Nat}(hT:mb md ops=T)(hB:kR T.2 B=true)(h:WA T B ds l.toList l'.toList i=true):Cw md ops ds l l' i=true:=by
 refine Ty hT ?_;simp only[WA,Pd,Bool.and_eq_true] at h⊢;obtain⟨⟨⟨⟨⟨h1,h2⟩,h3⟩,h4⟩,h5⟩,h6⟩:=h;refine⟨⟨⟨⟨⟨h1,h2⟩,h3⟩,h4⟩,?_⟩,h6⟩;unfold Wz at h5;unfold Li;rw[List.all_eq_true] at h5⊢;intro d hd;have h7:=h5 d hd;rw[Bool.or_eq_true,Bool.and_eq_true,decide_eq_true_eq] at h7;rcases h7 with h7|⟨h8,h9⟩
 ·rw[h7,Bool.true_or]
 ·rw[CB hB _ d h8 h8 h9,Bool.or_true]
theorem je{P:Program}{Q:Exit→Act→World→Prop}{S:World→Prop}{n:Nat}{a:Act}{w:World}{B:List Nat}(hT:mb md ops=T)(hB:kR T.2 B=true)(h:ae (mb md ops=T)→ae (kR T.2 B=true)→aZ P md ops Q S ds n l a w):aZ P md ops Q S ds n l a w:=h ⟨hT⟩ ⟨hB⟩
end
def ur:Code→Nat→Option (Array Oper)
 | .region id ops _,k=>if id==k then some ops else none
 | .seq a b,k=>match ur a k with
  |some o=>some o
  |none=>ur b k
 | .cond _ a b,k=>match ur a k with
  |some o=>some o
  |none=>ur b k
 | .block _ c,k=>ur c k
 | .loop c,k=>ur c k
 | .scope c,k=>ur c k
 | .rangeFunc _ _ a b,k=>match ur a k with
  |some o=>some o
  |none=>ur b k
 |_,_=>none
def opsOf(f:Func)(k:Nat):Array Oper:=((f.body.bind fun c=>ur c k)).getD #[]
end Go.Proofs.aa.ao
namespace Go.Proofs.aa.ao


end Go.Proofs.aa.ao
namespace Go.Proofs.aa.ag
open Go.RowKit


end Go.Proofs.aa.ag
namespace Go.Proofs.aa.ag
open Go.RowKit
namespace Kd
def tag{α:Type}(f:Nat→Nat)(d:Kd α):Kd (α×Nat) where
 sz:=d.sz
 E:=d.E
 K:=fun w x cs=>d.K w x.1 cs
 M:=fun w base ok x cs=>d.M w base (fun k=>ok k∧f k=x.2) x.1 cs
 l9:=fun h=>d.l9 h
 lM:=fun h=>d.lM h
 kP:=fun hb h=>d.kP hb h
 gh:=fun h=>d.gh h
 gi:=fun jo h=>d.gi (fun k hk=>⟨jo k hk.1,hk.2⟩) h
 ia:=fun h=>d.gi (fun _ hk=>⟨⟨hk.1.1,hk.2⟩,hk.1.2⟩) (d.ia h)
 jz:=fun hm h=>d.jz (fun k hk=>hm k hk.1) h
 kQ:=fun hb h=>d.kQ hb h
def bare{α:Type}(d:Kd α):Kd α where
 sz:=d.sz
 E:=d.E
 K:=d.K
 M:=fun w base _ x cs=>d.M w base (fun _=>False) x cs
 l9:=fun h=>d.l9 h
 lM:=fun h=>d.lM h
 kP:=fun hb h=>d.kP hb h
 gh:=fun h=>d.gh h
 gi:=fun _ h=>h
 ia:=fun h=>h
 jz:=fun _ h=>d.jz (fun _ hk=>hk.elim) h
 kQ:=fun hb h=>d.kQ hb h
def raw(sz:Nat):Kd (List Value) where
 sz:=sz
 E:=[]
 K:=fun _ x cs=>cs=x∧cs.length=sz∧∀u∈cs,u.oneCell'=true
 M:=fun _ _ _ x cs=>cs=x∧cs.length=sz∧∀u∈cs,u.oneCell'=true
 l9:=fun h=>h.2.1
 lM:=fun h=>h.2.2
 kP:=fun _ h=>h
 gh:=fun h=>h
 gi:=fun _ h=>h
 ia:=fun h=>h
 jz:=fun _ h=>h
 kQ:=fun _ h=>h
def S{α:Type}(d:Kd α)(e:Nat)(w:World)(base:Nat)(ok:Nat→Prop)(v:Value)(xs:List α):Prop:=∃f,(tag f d).R e w base ok v xs.zipIdx
section
variable {α β:Type}{d:Kd α}{d':Kd β}{e e':Nat}{w w1 W:World}{base b:Nat}{ok ok' okv oku:Nat→Prop}{u v:Value}{xs:List α}{ys:List β}
theorem Zk{xs:List α}{j:Nat}{p:α}(h:xs[j]? =some p):xs.zipIdx[j]? =some (p,j):=by rw[List.getElem?_zipIdx,h,Nat.zero_add];rfl
theorem S_R(h:S d e w base ok v xs):d.R e w base ok v xs:=by
 obtain⟨f,h0,inner,ho,hr⟩:=h;rw[List.length_zipIdx] at ho;exact⟨h0,inner,ho,by have:=hr.1;rw[List.length_zipIdx] at this;exact this,fun j p hj=>d.gi (fun _ hk=>hk.1) (hr.2 j (p,j) (Zk hj))⟩
theorem Zl{ad:Addr}{n cap:Nat}(h:d.R e w base ok (.slice (some ad) n cap) xs):∃g,ad=⟨g,0,none⟩:=by
 obtain⟨_,inner,ho,hr⟩:=h;rcases ho.2 with⟨hv,_⟩|⟨g,MX,cur,hv,_⟩
 ·cases hv
 ·injection hv with ha _ _
  injection ha with ha
  exact⟨g,ha⟩
theorem Tz(hE:d.E=[])(h:d.R e w base ok v xs):d.R e w base (fun k=>some k=v.ownBlock) v xs:=by
 obtain⟨h0,inner,ho,hr⟩:=h;refine⟨fun k hk=>hk.symm,inner,ho,hr.rU (fun p c hp=>d.gi (fun k hk=>?_) (d.ia hp))⟩;obtain⟨_,_,_,q,hq,_⟩:=hk;rw[hE] at hq;cases hq
theorem adi(d:Kd α)(e:Nat)(w:World)(base:Nat)(ok:Nat→Prop):S d e w base ok (.slice none 0 0) []:=⟨fun _=>0,lN _ _ _ _ _⟩
theorem Pe(h:S d e w base ok v xs)(jo:∀k,ok k→ok' k):S d e w base ok' v xs:=by
 obtain⟨f,h⟩:=h;exact⟨f,bJ h jo⟩
theorem TA(h:S d e w base ok v xs):S d e w base (fun k=>ok k∧base≤k∧k<w.heap.size∧∃q,q∈e::d.E∧∃cells,w.heap[k]? =some (.cells cells q (0,0))) v xs:=by
 obtain⟨f,h⟩:=h;exact⟨f,eH h⟩
theorem Zm(h:S d e w base ok v xs)(hm:∀k,ok k→w1.heap[k]? =w.heap[k]?):S d e w1 base ok v xs:=by
 obtain⟨f,h⟩:=h;exact⟨f,uK h hm⟩
theorem TB{base':Nat}(h:S d e w base ok v xs)(hb:base'≤base):S d e w base' ok v xs:=by
 obtain⟨f,h⟩:=h;exact⟨f,bO h hb⟩
theorem Zn(h:S d e w base ok v xs)(hm:∀k,ok k→k<w.heap.size→w1.heap[k]? =w.heap[k]?):S d e w1 base ok v xs:=
 Pe (Zm (TA h) (fun k hk=>hm k hk.1 hk.2.2.1)) (fun _ hk=>hk.1)
theorem vz(h:S d e w base ok v xs){p:Addr}(jo:∀k,ok k→k≠p.block)(u:Value):S d e (w.setCell p u) base ok v xs:=Zn h (fun k ho _=>Below.heap_setCell w p u k (jo k ho))
theorem TC(h:S d e w base ok v xs){g t:Nat}{cells:Array Value}(hb:w.heap[g]? =some (.cells cells t (0,0)))(ht:∀q,q∈e::d.E→q≠t):S d e w base (fun k=>ok k∧k≠g) v xs:=by
 obtain⟨f,h⟩:=h;exact⟨f,dc h hb ht⟩
theorem Zo(h:(bare d).R e w base ok v xs):S d e w base ok v xs:=by
 obtain⟨h0,inner,ho,hr⟩:=h;refine⟨fun _=>0,h0,inner,by rw[List.length_zipIdx];exact ho,by rw[List.length_zipIdx];exact hr.1,fun j p hj=>?_⟩;rw[List.getElem?_zipIdx,Nat.zero_add] at hj;obtain⟨x,hx,rfl⟩:=Option.map_eq_some_iff.1 hj;exact d.gi (fun _ hk=>hk.elim) (hr.2 j x hx)
end
section
variable {α β:Type}{d:Kd α}{d':Kd β}{e e' g:Nat}{w w1 W:World}{base b:Nat}{ok ok' okv oku:Nat→Prop}{u v:Value}{xs:List α}{ys:List β}
theorem Ll(h:S d e w base ok v xs):∃A c,v= .slice A xs.length c:=bm (S_R h)
theorem Pf{A:Option Addr}{n c:Nat}(h:S d e w base ok (.slice A n c) xs):n=xs.length∧n≤c∧d.C w A xs.length xs:=aW (S_R h)
end
section
variable {P:Program}{ops:Array Oper}{rest:List Oper}{o:Oper}{a:Act}{Q:Exit→Act→World→Prop}{Kc:Act→World→Prop}{α:Type}
theorem Gd(d:Kd α){w0 W:World}(base e:Nat)(hw:Region.wanted o (yielded ops a.tmps)=true){N:Tmp}(hd:o.dst=some N)(t:TypeId)(x y:Operand)(ho:o.op= .makeSlice t x y)(n:Int)(hx:a.eval x= .int .i64 n)(hy:a.eval y= .int .i64 n)
 (ht:P.underlying t=some (.slice e)) (z:Value) (bytes:Nat) (kE:(P.info? e).map (fun i=>(i.zero,i.size,i.bytes))=some (some z,d.sz,bytes)) (hz:z.cells.size=d.sz) (qC:0<d.sz) (uh:0<bytes)
 (z0:α) {ok kc:Nat→Prop} (hzero:d.M W base (fun _=>False) z0 z.cells.toList) (asK:∀k,kc k→ok k) (gj:ok W.heap.size) (h0:0≤n) (hl:n.toNat*bytes≤281474976710656) (HB:Below base w0 W) (eQ:base≤W.heap.size)
 (h:∀v1 w1,S d e w1 base ok v1 (List.replicate n.toNat z0)→Below base w0 w1→W.grownBy w1 none→(∃b,v1.ownBlock=some b∧W.heap.size≤b)→Kc (a.put o.dst v1) w1):
 if Region.wanted o (yielded ops a.tmps)=true then Oper.wp P o a W Kc Q else Kc (a.put o.dst undef) W:=
 Ga (bare d) base e hw hd t x y ho n hx hy ht z bytes kE hz qC uh z0 (ok:=ok) (kc:=ok) hzero (fun _ hk=>hk) gj h0 hl HB eQ (fun v1 w1 hr=>h v1 w1 (Zo hr))
end
def gap{α:Type}(f:Nat→Nat)(d:Kd α)(i:Nat)(c:List Value):Kd (α×Nat) where
 sz:=d.sz
 E:=d.E
 K:=fun w x cs=>(x.2=i→cs=c∧cs.length=d.sz∧∀u∈cs,u.oneCell'=true)∧(x.2≠i→d.K w x.1 cs)
 M:=fun w base ok x cs=>(x.2=i→cs=c∧cs.length=d.sz∧∀u∈cs,u.oneCell'=true)∧(x.2≠i→d.M w base (fun k=>ok k∧f k=x.2) x.1 cs)
 l9:=fun{w x cs} h=>by
  by_cases hx:x.2=i
  ·exact(h.1 hx).2.1
  ·exact d.l9 (h.2 hx)
 lM:=fun{w x cs} h=>by
  by_cases hx:x.2=i
  ·exact(h.1 hx).2.2
  ·exact d.lM (h.2 hx)
 kP:=fun hb h=>⟨h.1,fun hx=>d.kP hb (h.2 hx)⟩
 gh:=fun h=>⟨h.1,fun hx=>d.gh (h.2 hx)⟩
 gi:=fun jo h=>⟨h.1,fun hx=>d.gi (fun k hk=>⟨jo k hk.1,hk.2⟩) (h.2 hx)⟩
 ia:=fun h=>⟨h.1,fun hx=>d.gi (fun _ hk=>⟨⟨hk.1.1,hk.2⟩,hk.1.2⟩) (d.ia (h.2 hx))⟩
 jz:=fun hm h=>⟨h.1,fun hx=>d.jz (fun k hk=>hm k hk.1) (h.2 hx)⟩
 kQ:=fun hb h=>⟨h.1,fun hx=>d.kQ hb (h.2 hx)⟩
def H{α:Type}(d:Kd α)(e:Nat)(w:World)(base:Nat)(ok:Nat→Prop)(v:Value)(xs:List α)(i:Int)(oki:Nat→Prop)(c:List Value):Prop:=
 (∀k,oki k→ok k)∧∃f,(gap f d i.toNat c).R e w base (fun k=>ok k∧¬oki k) v xs.zipIdx
end Kd
end Go.Proofs.aa.ag
namespace Go.Proofs.aa.ag
open Go.RowKit
section
variable {P:Program}
theorem xy(w:World)(base:Nat)(t ti ty e:TypeId)(i:TypeInfo)(z:Value)(size bytes:Nat)(ht:P.underlying t=some (.slice e)){k:IntKind}(Zp:P.underlying ti=some (.int k))(hi:P.info? e=some i)(hz:i.zero=some z)
 (adj:i.size=size) (hby:i.bytes=bytes) (hzs:z.cells.size=size) (oL:0<size) (uh:0<bytes)
 (v:Value) (n:Nat) (xs:List Value) (mB:w.ownsRow base e size v n xs) (kx:IntKind) (m:Nat) (h1:∀u∈(Builtin.zeroCells z.cells m).toList,u.oneCell'=true)
 (Ao:(n+m)*bytes≤140737488355328) (eQ:base≤w.heap.size):
 ∃v' w',(Builtin.append_ #[t,ti] ty #[v,.int kx m]).run P w= .ok v' w'∧w'.ownsRow base e size v' (n+m) (xs++(Builtin.zeroCells z.cells m).toList)∧w.grownBy w' v.ownBlock∧
  (v'.ownBlock=v.ownBlock∨v'.ownBlock=some w.heap.size):=by
 subst adj;subst hby;have hle:n+m≤140737488355328:=Nat.le_trans (Nat.le_mul_of_pos_right _ uh) Ao;have h63:n+m≤maxLen:=by simp only[maxLen];omega
 have hw:IntKind.i64.wrap (m:Int)=m:=by rw[IntKind.wrap_i64];omega
 have hw0:IntKind.i64.wrap 0=0:=by rw[IntKind.wrap_i64];rfl
 have adk:¬((m:Int)<0):=by omega
 have hmb:m*i.bytes≤140737488355328:=Nat.le_trans (Nat.mul_le_mul_right _ (Nat.le_add_left m n)) Ao
 have adl:¬(281474976710656<(m:Int)*(i.bytes:Int)):=by
  rw[←Int.natCast_mul];omega
 have hsn:i.size≠0:=by omega
 obtain⟨news,Ge⟩:∃news,news=(Builtin.zeroCells z.cells m).toList:=⟨_,rfl⟩;rw[←Ge] at h1⊢;have hl:news.length=m*i.size:=by rw[Ge,Array.length_toList,size_zeroCells,hzs]
 have hna:Builtin.zeroCells z.cells m=news.toArray:=by rw[Ge]
 have hlen:(xs++news).length=(n+m)*i.size:=by rw[List.length_append,mB.1,hl,Nat.add_mul]
 have vA:m=0→news=[]:=fun h=>List.eq_nil_of_length_eq_zero (by rw[hl,h,Nat.zero_mul])
 have grown:∀(OM:Nat),OM<n+m→∀(row:Option Nat),
  (w.drew.alloc (.cells (xs.toArray++news.toArray++Builtin.zeroCells z.cells (grownCap w (n+m) OM e-(n+m))) e)).ownsRow base e i.size
   (.slice (some ⟨w.heap.size,0,none⟩) (n+m) (grownCap w (n+m) OM e)) (n+m) (xs++news)∧
  w.grownBy (w.drew.alloc (.cells (xs.toArray++news.toArray++Builtin.zeroCells z.cells (grownCap w (n+m) OM e-(n+m))) e)) row:=by
  intro OM ho row;have F9:=grownCap_ge w (n+m) OM e;have Zd:grownCap w (n+m) OM e≤maxLen:=grownCap_le_maxLen w (n+m) OM e h63;refine⟨⟨hlen,.inr ⟨w.heap.size,_,_,rfl,eQ,heap_alloc_new w.drew _,F9,Zd,?_,?_⟩⟩,⟨rfl,rfl,rfl,by simp,fun k hk _=>heap_alloc_old w.drew _ hk⟩⟩
  ·simp only[Array.size_append,List.size_toArray,size_zeroCells,hzs,mB.1,hl,←Nat.add_mul]
   congr 1
   omega
  ·simp only[Array.toList_append,List.append_assoc];rw[←List.append_assoc,←hlen];exact List.take_left
 have runs:∀(A:Option Addr)(cap:Nat),cap<n+m→(Builtin.firstCells i.size n (.slice A n cap)).run P w.drew= .ok xs.toArray w.drew→(Builtin.append_ #[t,ti] ty #[.slice A n cap,.int kx m]).run P w=
  .ok (.slice (some ⟨w.heap.size,0,none⟩) (n+m) (grownCap w (n+m) cap e)) (w.drew.alloc (.cells (xs.toArray++news.toArray++Builtin.zeroCells z.cells (grownCap w (n+m) cap e-(n+m))) e)):=by
  intro A cap Du hfo;have hn:¬(n+m≤cap):=by omega
  have adm:¬(9223372036854775807<((n:Int)+(m:Int))):=by omega
  have Ds:=growslice_fits Du Ao;have Zq:¬(281474976710656<Builtin.nextslicecap (n+m) cap*i.bytes):=by omega
  by_cases hm:m=0
  ·have WB:=vA hm;subst hm;rw[WB];simp only[Nat.add_zero] at hn adm Zq⊢;have adn:¬(9223372036854775807<(n:Int)):=by omega
   simp [Builtin.append_,run_underlying ht,run_underlying Zp,sizeOf,typeInfo,zeroValue,hi,hz,asInt,asIntOf,hw0,hn,adn,Zq,Question.forced,hfo,newRow,grownCap]
  ·have hmz:¬(m*i.size=0):=Nat.mul_ne_zero hm hsn;simp [Builtin.append_,run_underlying ht,run_underlying Zp,sizeOf,typeInfo,zeroValue,hi,hz,asInt,asIntOf,hw,adk,adl,hn,adm,Zq,Question.forced,hfo,newRow,grownCap,hmz,hna]
   congr 2
   apply Array.ext';simp [List.append_assoc]
 rcases mB.2 with⟨rfl,rfl⟩|⟨g,cap,cur,rfl,hbg,hg,Jh,Zd,hcs,ado⟩
 ·have hx:xs=[]:=List.eq_nil_of_length_eq_zero (by simpa using mB.1);subst hx
  by_cases hm:m=0
  ·have WB:=vA hm;subst hm;rw[WB];refine⟨.slice none 0 0,w,?_,World.ownsRow_nil w base e i.size,⟨rfl,rfl,rfl,Nat.le_refl _,fun _ _ _=>rfl⟩,Or.inl rfl⟩;simp [Builtin.append_,run_underlying ht,run_underlying Zp,sizeOf,typeInfo,hi,asInt,asIntOf,hw0]
  ·have my:=grown 0 (by omega) (Value.ownBlock (.slice none 0 0));exact⟨_,_,runs none 0 (by omega) (by simp [Builtin.firstCells]),my.1,my.2,Or.inr rfl⟩
 ·by_cases Pg:n+m≤cap
  ·have Ds:n*i.size+news.length≤cur.size:=by rw[hl,hcs,←Nat.add_mul];exact Nat.mul_le_mul_right _ Pg
   obtain⟨Dr,h3,h4,h5⟩:=rW news (n*i.size) w cur hg Ds;obtain⟨s1,s2,s3,s4⟩:=qD g news (n*i.size) w;have Ca:=run_storeCells_cells (P:=P) g (n*i.size) news 0 w (fun j hj=>by rw[cell_of_row w g _ cur e (0,0) hg];simp;omega) (fun j _=>bn hg _) h1;simp only[Nat.add_zero] at Ca;refine⟨.slice (some ⟨g,0,none⟩) (n+m) cap,w.setCells g (n*i.size) news,?_,⟨hlen,.inr ⟨g,cap,Dr,rfl,hbg,h3,Pg,Zd,by rw[h4,hcs],?_⟩⟩,⟨s1,s2,s3,by rw[s4];exact Nat.le_refl _,fun k _ hk=>rV news _ k (fun e=>hk (by simp [Value.ownBlock,e]))⟩,Or.inl rfl⟩
   ·by_cases hm:m=0
    ·have WB:=vA hm;subst hm;rw[WB] at Ca⊢;simp [Builtin.append_,run_underlying ht,run_underlying Zp,sizeOf,typeInfo,hi,asInt,asIntOf,hw0,Jh,add_plain,Ca]
    ·have hmz:¬(m*i.size=0):=Nat.mul_ne_zero hm hsn;simp [Builtin.append_,run_underlying ht,run_underlying Zp,sizeOf,typeInfo,zeroValue,hi,hz,asInt,asIntOf,hw,adk,adl,Pg,hmz,hna,add_plain,Ca]
   ·rw[h5];have h6:cur.toList.take (n*i.size)=xs:=ado;rw[h6,←hlen];exact List.take_left
  ·have holds:∀j u,xs[j]? =some u→w.cell? ((⟨g,0,none⟩:Addr).add j)=some u:=mB.cells (g:=g) rfl;have my:=grown cap (by omega) (Value.ownBlock (.slice (some ⟨g,0,none⟩) n cap));exact⟨_,_,runs (some ⟨g,0,none⟩) cap (by omega) (run_firstCells_some (P:=P) w.drew i.size n _ n cap xs mB.1 (by simpa using holds)),my.1,my.2,Or.inr rfl⟩
end
end Go.Proofs.aa.ag
namespace Go.Proofs.aa.ag
open Go.RowKit
namespace Kd
structure Heap {α:Type} (d:Kd α):Prop where
 K:∀{w w1:World}{x:α}{cs:List Value},(∀k,k<w.heap.size→w1.heap[k]? =w.heap[k]?)→d.K w x cs→d.K w1 x cs
theorem M0{w w1:World}(hb:∀k,k<w.heap.size→w1.heap[k]? =w.heap[k]?){a:Addr}{v:Value}(h:w.cell? a=some v):w1.cell? a=some v:=by
 have:=hb a.block (World.block_lt_of_cell? w a h);simpa [World.cell?,this] using h
theorem Heap.C{α:Type}{d:Kd α}(hd:Heap d){w w1:World}{A:Option Addr}{n:Nat}{xs:List α}(hb:∀k,k<w.heap.size→w1.heap[k]? =w.heap[k]?)(h:d.C w A n xs):d.C w1 A n xs:=
 ⟨h.1,h.2.1,fun hn=>by
  obtain⟨ad,e,hc⟩:=h.2.2 hn;refine⟨ad,e,fun j p hj=>?_⟩;obtain⟨c,hs,hr,iJ⟩:=hc j p hj;exact⟨c,hs,hd.K hb hr,fun i u hu=>M0 hb (iJ i u hu)⟩⟩
theorem Gf(k:IntKind):Heap (Kd.int k):=⟨fun _ h=>h⟩
theorem Jr{α:Type}{d:Kd α}(e:Nat)(hd:Heap d):Heap (slice e d):=⟨by
 rintro w w1 x cs hb ⟨A,c,rfl,hl,hr⟩;exact⟨A,c,rfl,hl,hd.C hb hr⟩⟩
end Kd
end Go.Proofs.aa.ag
namespace Go.Proofs.aa.ag
open Go.RowKit

end Go.Proofs.aa.ag
namespace Go.Proofs.aa.ag
open Go.RowKit
def fO(P:World→Prop)(W:World)(ok:Nat→Prop):Prop:=∀W':World,(∀k,ok k→k<W.heap.size→W'.heap[k]? =W.heap[k]?)→P W'
theorem Dv{W W1:World}{k:Nat}(h:W1.heap[k]? =W.heap[k]?)(cX:k<W.heap.size):k<W1.heap.size:=by
 rw[Array.getElem?_eq_getElem cX] at h;exact(Array.getElem?_eq_some_iff.1 h).1
namespace fO
variable {P Q:World→Prop}{W W1:World}{ok ok':Nat→Prop}
theorem now(h:fO P W ok):P W:=h W (fun _ _ _=>rfl)
theorem mono(h:fO P W ok)(jo:∀k,ok k→ok' k):fO P W ok':=fun W' hW=>h W' (fun k hk cX=>hW k (jo k hk) cX)
theorem bound(h:fO P W ok):fO P W (fun k=>ok k∧k<W.heap.size):=fun W' hW=>h W' (fun k hk cX=>hW k ⟨hk,cX⟩ cX)
theorem step(h:fO P W ok)(hm:∀k,ok k→k<W.heap.size→W1.heap[k]? =W.heap[k]?):fO P W1 ok:=fun W' hW=>h W' (fun k hk cX=>(hW k hk (Dv (hm k hk cX) cX)).trans (hm k hk cX))
theorem imp(h:fO P W ok)(hi:∀W',P W'→Q W'):fO Q W ok:=fun W' hW=>hi W' (h W' hW)
theorem OM(h:fO P W ok)(hb:Below W.heap.size W W1):fO P W1 (fun k=>ok k∧k<W.heap.size):=(h.bound).step (fun k _ cX=>hb.block k cX)
end fO
namespace Kd
def F{α:Type}(d:Kd α)(W:World)(ok:Nat→Prop)(A:Option Addr)(n:Nat)(xs:List α):Prop:=fO (fun W=>d.C W A n xs) W ok
def FK{α:Type}(d:Kd α)(W:World)(ok:Nat→Prop)(x:α)(c:List Value):Prop:=fO (fun W=>d.K W x c) W ok
section
variable {α β:Type}{d:Kd α}{e base n n' cc g N:Nat}{ok ok' kc S:Nat→Prop}{w w0 w1 W W1:World}{A A':Option Addr}{u v v1:Value}{xs:List α}{xs':List β}{d':Kd β}{x:α}{c:List Value}
theorem uu(h:F d W ok A n xs):d.C W A n xs:=fO.now h
theorem jB(h:F d W ok A n xs)(jo:∀k,ok k→ok' k):F d W ok' A n xs:=fO.mono h jo
theorem zr(h:F d W ok A n xs):F d W (fun k=>ok k∧k<W.heap.size) A n xs:=fO.bound h
theorem Ap(h:F d W ok A n xs)(hm:∀k,ok k→k<W.heap.size→W1.heap[k]? =W.heap[k]?):F d W1 ok A n xs:=fO.step h hm
theorem Ph(h:F d W ok A n xs)(hi:∀W',d.C W' A n xs→d'.C W' A' n' xs'):F d' W ok A' n' xs':=fO.imp h hi
theorem ki(h:F d W ok A n xs)(hb:Below W.heap.size W W1):F d W1 ok A n xs:=Ap h (fun k _ cX=>hb.block k cX)
theorem Zr(h:F d W ok A n xs):F d W.drew ok A n xs:=ki h (dF (Below.refl _ _))
theorem TD(h:F d W ok A n xs)(m:Nat):F d (W.drewN m) ok A n xs:=ki h (cZ (Below.refl _ _) m)
theorem adp(h:F d W ok A n xs){p:Addr}(jo:∀k,ok k→k≠p.block)(u:Value):F d (W.setCell p u) ok A n xs:=Ap h (fun k hk _=>Below.heap_setCell W p u k (jo k hk))
theorem Pj(h:F d W ok A n xs)(eQ:∀k,v.ownBlock=some k→W.heap.size≤k)(hb:Below W.heap.size W W1):F d W1 (fun k=>ok k∧some k≠v.ownBlock) A n xs:=
 jB (fO.OM h hb) (fun k hk=>⟨hk.1,fun he=>by have:=eQ k he.symm;have:=hk.2;omega⟩)
theorem Pk(h:F d W ok A n xs)(a:Nat)(ha:W.heap.size≤a):F d W (fun k=>ok k∧k≠a) A n xs:=jB (zr h) (fun k hk=>⟨hk.1,by have:=hk.2;omega⟩)
theorem TE(h:F d W (fun k=>ok k∧some k≠v.ownBlock) A n xs)(hg:W.grownBy W1 v.ownBlock)(dH:v1.ownBlock=v.ownBlock∨∃b,v1.ownBlock=some b∧W.heap.size≤b):F d W1 (fun k=>ok k∧some k≠v1.ownBlock) A n xs:=by
 refine jB (fO.step (zr h) (fun k hk cX=>hg.block k cX hk.1.2)) (fun k hk=>⟨hk.1.1,?_⟩);rcases dH with dH|⟨b,hb,hle⟩
 ·rw[dH];exact hk.1.2
 ·rw[hb];intro he;injection he with he
  have:=hk.2;omega
theorem C_F(hd:Heap d)(h:d.C w A n xs):F d w (fun k=>k<w.heap.size) A n xs:=fun _ hW=>hd.C (fun k cX=>hW k cX cX) h
theorem TF(h:d.R e W base ok (.slice A n cc) xs):F d W ok A n xs:=fun W' hW=>by
 have h2:=aW (fQ h hW);rw[h2.1];exact h2.2.2
theorem sW(h:FK d W ok x c):d.K W x c:=fO.now h
theorem rX(h:FK d W ok x c)(jo:∀k,ok k→ok' k):FK d W ok' x c:=fO.mono h jo
theorem Aq(h:FK d W ok x c):FK d W (fun k=>ok k∧k<W.heap.size) x c:=fO.bound h
theorem vB(h:FK d W ok x c)(hm:∀k,ok k→k<W.heap.size→W1.heap[k]? =W.heap[k]?):FK d W1 ok x c:=fO.step h hm
theorem TG(h:d.M W base ok x c):FK d W ok x c:=fun _ hW=>d.gh (O8 h hW)
theorem TH(W:World)(g:Nat):∃W':World,(∀k,k≠g→W'.heap[k]? =W.heap[k]?)∧∀a:Addr,a.block=g→W'.cell? a=none:=by
 refine⟨{W with heap:=W.heap.setIfInBounds g (.cells #[] 0)},fun k hk=>by simp [Ne.symm hk],fun a ha=>?_⟩;subst ha
 by_cases cX:a.block<W.heap.size
 ·simp [World.cell?,cX]
 ·simp [World.cell?,cX]
end
end Kd
end Go.Proofs.aa.ag
