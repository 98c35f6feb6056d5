import Derived.ArgAppend
import Derived.Below
import Derived.BigQuiet
import Derived.Deep.AppendLies
import Derived.Deep.CutBlock
import Derived.Deep.DeepCutAuto
import Derived.Deep.Draws
import Derived.Deep.LoopGhost
import Derived.Deep.OwnRows
import Derived.Deep.QuietTactic
import Derived.Deep.RegionHeld3
import Derived.KernelRfl
import Derived.Laws.BytesArg
import Derived.Laws.IdiomCopy
import Derived.Laws.MakeOwn
import Derived.Laws.OwnMore
import Derived.Laws.Rows
import Derived.Laws.Slices
import Derived.Lib.AppendStr
import Derived.Lib.ConvBytes
import Derived.Maps.AppendAt
import Derived.OwnWalk
import Derived.RowKit
import Derived.RowKit3
import Derived.Tactics
import Derived.WalkKit
import Derived.WideLaws
set_option linter.unusedVariables false
set_option linter.unusedSimpArgs false
set_option maxRecDepth 100000
set_option maxHeartbeats 8000000
namespace Go.Proofs.aa.ag
open Go.RowKit
structure ae (p:Prop):Prop where mk::(out:p)
structure bN (w w':World):Prop where mk::(out:∃n,w'=w.drewN n)
theorem bN.refl(w:World):bN w w:=⟨⟨0,rfl⟩⟩
theorem bN.step{w w':World}(h:bN w w')(n:Nat):bN w (w'.drewN n):=by
 obtain⟨m,rfl⟩:=h;exact⟨⟨m+n,World.drewN_drewN ..⟩⟩
theorem bN.below{w w':World}(h:bN w w'):Below w.heap.size w w':=by
 obtain⟨n,rfl⟩:=h
 induction n with
 |zero=>exact Below.refl _ _
 |succ n ih=>rw[←World.drew_drewN];exact ih.drew
def rd(xs:List Int)(i:Int):Int:=xs.getD i.toNat 0
def nums(k:IntKind)(xs:List Int):List Value:=xs.map fun x=> .int k x
theorem nums_length(k:IntKind)(xs:List Int):(nums k xs).length=xs.length:=by simp [nums]
theorem nC(k:IntKind)(xs ys:List Int):nums k (xs++ys)=nums k xs++nums k ys:=by simp [nums]
theorem ab{w W:World}(h:Below w.heap.size w W)(o:Obj):Below w.heap.size w (W.alloc o):=h.alloc h.size o
theorem dF{B:Nat}{w W:World}(h:Below B w W):Below B w W.drew:=⟨h.os,h.tape,h.output,h.size,h.block⟩
theorem cZ{B:Nat}{w W:World}(h:Below B w W)(n:Nat):Below B w (W.drewN n):=⟨h.os,h.tape,h.output,h.size,h.block⟩
theorem Jf{B:Nat}{w w1 w2:World}(h:Below B w w1)(hB:B≤w1.heap.size)(k:Below w1.heap.size w1 w2):Below B w w2:=
 h.trans ⟨k.os,k.tape,k.output,k.size,fun i hi=>k.block i (Nat.lt_of_lt_of_le hi hB)⟩
theorem zY{w w1:World}(h:Below w.heap.size w w1)(row:Option Nat):w.grownBy w1 row:=⟨h.os,h.tape,h.output,h.size,fun i hi _=>h.block i hi⟩
theorem gv{w w1:World}(h:Below w.heap.size w w1){a:Addr}{v:Value}(hc:w.cell? a=some v):w1.cell? a=some v:=(h.cell (World.block_lt_of_cell? w a hc)).trans hc
theorem add_plain(g j:Nat):(⟨g,0,none⟩:Addr).add j=⟨g,j,none⟩:=by unfold Addr.add;split<;>simp_all
def jN(w:World)(k:IntKind)(A:Option Addr)(n:Nat)(xs:List Int):Prop:=
 xs.length=n∧n≤9223372036854775807∧(0<n→∃ad,A=some ad∧∀j,j<n→w.cell? (ad.add j)=some (.int k (xs.getD j 0)))
theorem jN.at_{w:World}{k:IntKind}{A:Option Addr}{n:Nat}{xs:List Int}(h:jN w k A n xs)(i:Int)(h0:0≤i)(h1:i<n):∃ad,A=some ad∧w.cell? (ad.add i.toNat)=some (.int k (rd xs i)):=by
 obtain⟨ad,e,hc⟩:=h.2.2 (by omega);exact⟨ad,e,hc _ (by omega)⟩
theorem pP(W:World)(base:Nat)(e:TypeId)(size:Nat):W.ownsRow base e size (.slice none 0 0) 0 []:=⟨by simp,.inl ⟨rfl,rfl⟩⟩
theorem nE{w:World}{base:Nat}{e:TypeId}{size n:Nat}{v:Value}{xs:List Value}(h:w.ownsRow base e size v n xs)(k:Nat)(hk:v.ownBlock=some k):base≤k:=by
 rcases h.2 with⟨rfl,_⟩|⟨g,cap,cur,rfl,hb,_⟩
 ·simp [Value.ownBlock] at hk
 ·have:g=k:=by simpa [Value.ownBlock] using hk
  omega
theorem Dm{w:World}{base:Nat}{e:TypeId}{size n:Nat}{v:Value}{xs:List Value}(h:w.ownsRow base e size v n xs)(k:Nat)(hk:v.ownBlock=some k):k<w.heap.size:=by
 rcases h.2 with⟨rfl,_⟩|⟨g,cap,cur,rfl,hb,hh,_⟩
 ·simp [Value.ownBlock] at hk
 ·have:g=k:=by simpa [Value.ownBlock] using hk
  subst this;exact(Array.getElem?_eq_some_iff.1 hh).1
theorem jN.ke{w:World}{k:IntKind}{A:Option Addr}{n:Nat}{xs:List Int}(h:jN w k A n xs)(i:Nat)(hi:i≤n):jN w k A i (xs.take i):=by
 refine⟨by rw[List.length_take,h.1];omega,by have:=h.2.1;omega,fun hp=>?_⟩;obtain⟨ad,e,hc⟩:=h.2.2 (by omega);refine⟨ad,e,fun j hj=>?_⟩;rw[hc j (by omega)];simp [List.getD_eq_getElem?_getD,hj]
theorem jN.Ww{w:World}{k:IntKind}{A:Option Addr}{n c:Nat}{xs:List Int}(h:jN w k A n xs)(i:Nat)(hi:i≤n)(hc:n≤c):jN w k (if c=i then A else A.map (·.add i)) (n-i) (xs.drop i):=by
 refine⟨by rw[List.length_drop,h.1],by have:=h.2.1;omega,fun hp=>?_⟩;obtain⟨ad,rfl,iJ⟩:=h.2.2 (by omega);rw[if_neg (by omega)];refine⟨ad.add i,rfl,fun j hj=>?_⟩
 have ha:(ad.add i).add j=ad.add (i+j):=by
  unfold Addr.add
  by_cases h1:i=0<;>by_cases h2:j=0<;>simp [h1,h2,Nat.add_assoc]
 rw[ha,iJ (i+j) (by omega)];simp [List.getD_eq_getElem?_getD,List.getElem?_drop]
def sL{α:Type}(a b:Option α):Prop:=∀r,a=some r→b=some r
theorem sL.refl{α:Type}(a:Option α):sL a a:=fun _ h=>h
theorem sL.none{α:Type}(b:Option α):sL Option.none b:=fun _ h=>by cases h
theorem sL.trans{α:Type}{a b c:Option α}(h:sL a b)(k:sL b c):sL a c:=fun r hr=>k r (h r hr)
theorem sL.ite{α:Type}{c:Prop}[Decidable c]{a a' b b':Option α}(h:sL a a')(k:sL b b'):sL (if c then a else b) (if c then a' else b'):=by
 split
 ·exact h
 ·exact k
theorem sL.bind{α β:Type}{a a':Option α}{f f':α→Option β}(h:sL a a')(k:∀x,sL (f x) (f' x)):sL (a.bind f) (a'.bind f'):=by
 intro r hr;obtain⟨x,hx,hf⟩:=Option.bind_eq_some_iff.1 hr;exact Option.bind_eq_some_iff.2 ⟨x,h x hx,k x r hf⟩
theorem yn{α:Type}{g:Nat→Option α}(h:∀k,sL (g k) (g (k+1)))(k:Nat):∀j,sL (g k) (g (k+j))
 |0=>sL.refl _
 |j+1=>(yn h k j).trans (h (k+j))
theorem Cx{α:Type}{g:Nat→Option α}(h:∀k,sL (g k) (g (k+1))){k k':Nat}(hk:k≤k'){r:α}(hr:g k=some r):g k'=some r:=by
 have:=yn h k (k'-k) r hr
 rwa [Nat.add_sub_cancel' hk] at this
def fg{α:Type}(R:α→List Value→Prop)(size:Nat)(ps:List α)(cs:List Value):Prop:=
 cs.length=ps.length*size∧∀j p,ps[j]? =some p→R p ((cs.drop (j*size)).take size)
theorem fg.none{α:Type}(R:α→List Value→Prop)(size:Nat):fg R size [] []:=⟨by simp,fun j p h=>by simp at h⟩
theorem fg.snoc{α:Type}{R:α→List Value→Prop}{size:Nat}{ps:List α}{cs c:List Value}{p:α}(h:fg R size ps cs)(hp:R p c)(hc:c.length=size):fg R size (ps++[p]) (cs++c):=by
 refine⟨by rw[List.length_append,h.1,hc,List.length_append,List.length_singleton,Nat.add_mul,Nat.one_mul],fun j q hq=>?_⟩;rcases Nat.lt_or_ge j ps.length with hj|hj
 ·rw[List.getElem?_append_left hj] at hq;have h1:j*size+size≤cs.length:=by rw[h.1,←Nat.succ_mul];exact Nat.mul_le_mul_right _ hj
  have h2:=h.2 j q hq;rw[List.drop_append_of_le_length (by omega),List.take_append_of_le_length (by rw[List.length_drop];omega)];exact h2
 ·have hj':j=ps.length:=by
   have:=(List.getElem?_eq_some_iff.1 hq).1;rw[List.length_append,List.length_singleton] at this;omega
  subst hj';have hq':p=q:=by simpa using hq
  subst hq';rw[←h.1,List.drop_left,←hc,List.take_length];exact hp
theorem fg.rU{α:Type}{R R':α→List Value→Prop}{size:Nat}{ps:List α}{cs:List Value}(h:fg R size ps cs)(hR:∀p c,R p c→R' p c):fg R' size ps cs:=⟨h.1,fun j p hj=>hR _ _ (h.2 j p hj)⟩
def dD{α:Type}(R:α→List Value→Prop)(size:Nat)(w:World)(A:Option Addr)(n:Nat)(ps:List α):Prop:=
 ps.length=n∧n≤9223372036854775807∧(0<n→∃ad,A=some ad∧∀j p,ps[j]? =some p→∃c,c.length=size∧R p c∧∀i u,c[i]? =some u→w.cell? (ad.add (j*size+i))=some u)
theorem dD.FZ{α:Type}{R:α→List Value→Prop}{size:Nat}{w:World}{A:Option Addr}{n:Nat}{ps:List α}(h:dD R size w A n ps)(d:α)(i:Int)(h0:0≤i)(h1:i<n):
 ∃ad c,A=some ad∧c.length=size∧R (ps.getD i.toNat d) c∧∀j u,c[j]? =some u→w.cell? (ad.add (i.toNat*size+j))=some u:=by
 obtain⟨ad,e,hc⟩:=h.2.2 (by omega);have hl:i.toNat<ps.length:=by have:=h.1;omega
 obtain⟨c,hs,hr,iJ⟩:=hc i.toNat _ (List.getElem?_eq_getElem hl);refine⟨ad,c,e,hs,?_,iJ⟩;rw[List.getD_eq_getElem?_getD,List.getElem?_eq_getElem hl];exact hr
theorem dD.rU{α:Type}{R R':α→List Value→Prop}{size:Nat}{w w1:World}{A:Option Addr}{n:Nat}{ps:List α}(h:dD R size w A n ps)(hb:Below w.heap.size w w1)(hR:∀p c,R p c→R' p c):dD R' size w1 A n ps:=
 ⟨h.1,h.2.1,fun hn=>by
  obtain⟨ad,e,hc⟩:=h.2.2 hn;refine⟨ad,e,fun j p hj=>?_⟩;obtain⟨c,hs,hr,iJ⟩:=hc j p hj;exact⟨c,hs,hR _ _ hr,fun i u hu=>gv hb (iJ i u hu)⟩⟩
theorem B'{α:Type}{R:α→List Value→Prop}{w:World}{base n size:Nat}{e:TypeId}{v:Value}{ps:List α}{cs:List Value}(h:w.ownsRow base e size v n cs)(hR:fg R size ps cs)(hn:ps.length=n):
 ∃A c,v= .slice A n c∧dD R size w A n ps:=by
 rcases Nat.eq_zero_or_pos n with h0|h0
 ·rcases h.2 with⟨rfl,rfl⟩|⟨g,cap,cur,rfl,_⟩
  ·exact⟨none,0,rfl,hn,by omega,fun hp=>absurd hp (by omega)⟩
  ·exact⟨_,cap,rfl,hn,by omega,fun hp=>absurd hp (by omega)⟩
 ·obtain⟨g,cap,rfl,_,_⟩:=h.form h0
  have hm:n≤9223372036854775807:=by
   rcases h.2 with⟨_,h1⟩|⟨g',MX,cur,he,_,_,h1,h2,_⟩
   ·omega
   ·simp only[maxLen] at h2;omega
  refine⟨_,cap,rfl,hn,hm,fun _=>⟨_,rfl,fun j p hj=>⟨(cs.drop (j*size)).take size,?_,hR.2 j p hj,fun i u hu=>?_⟩⟩⟩
  ·have Dn:=(List.getElem?_eq_some_iff.1 hj).1;have h1:j*size+size≤cs.length:=by rw[hR.1,←Nat.succ_mul];exact Nat.mul_le_mul_right _ Dn
   rw[List.length_take,List.length_drop];omega
  ·refine h.cells (g:=g) rfl _ u ?_;rw[List.getElem?_take] at hu;split at hu
   ·rw[List.getElem?_drop] at hu;exact hu
   ·cases hu
theorem jW(ad:Addr)(m j:Nat)(hj:0<j):ad.add (m+j)=⟨(ad.add m).block,(ad.add m).off+j,none⟩:=by
 unfold Addr.add
 by_cases hm:m=0
 ·subst hm;simp [Nat.ne_of_gt hj]
 ·simp [hm,Nat.add_assoc]
section
variable {P:Program}{ops:Array Oper}{rest:List Oper}{o:Oper}{a:Act}{Q:Exit→Act→World→Prop}
theorem jy{w0 W:World}(base:Nat)(um:o.guard=none)(s x:Operand)(t e:TypeId)(z:Value)(size bytes:Nat)
 (ho:o.op= .call {callee:= .builtin .append,args:= #[s,x],argTypes:= #[t,t]})
 (ht:P.underlying t=some (.slice e)) (kE:(P.info? e).map (fun i=>(i.zero,i.size,i.bytes))=some (some z,size,bytes)) (hz:z.cells.size=size) (qC:0<size) (uh:0<bytes)
 (v:Value) (n:Nat) (xs ys:List Value) (hs:a.eval s=v) (hx:a.eval x= .slice (some ⟨W.heap.size,0,none⟩) 1 1) (Tr:ys.length=size) (h1:∀u∈ys,u.oneCell'=true)
 (HO:W.ownsRow base e size v n xs) (HB:Below base w0 W) (eQ:base≤W.heap.size) (hl:(n+1)*bytes≤140737488355328)
 (h:∀v1 w1,w1.ownsRow base e size v1 (n+1) (xs++ys)→Below base w0 w1→W.grownBy w1 v.ownBlock→(v1.ownBlock=v.ownBlock∨∃b,v1.ownBlock=some b∧W.heap.size≤b)→wpList P ops Q rest (a.put o.dst v1) w1):
 wpList P ops Q (o::rest) a (W.alloc (.cells ys.toArray e)):=by
 obtain⟨i0,hi,zZ⟩:=Option.map_eq_some_iff.1 kE;simp only[Prod.mk.injEq] at zZ;obtain⟨yY,yZ,vn⟩:=zZ;have hlen:n+1≤140737488355328:=Nat.le_trans (Nat.le_mul_of_pos_right _ uh) hl
 refine wpList_append_own_at (W.alloc (.cells ys.toArray e)) um s x t ho base e i0 z size bytes ht hi yY yZ vn hz qC v n xs hs (HO.alloc _) ⟨W.heap.size,0,none⟩ 1 1 ys hx (by rw[Tr];simp)
  (by simpa using World.news_of_block (cs:=ys.toArray) (t:=e) (fr:=(0,0)) (heap_alloc_new W (.cells ys.toArray e))) h1 (by simp only[maxLen];omega) hl (by simp;omega) ?_
 intro v1 w1 mB hg _ dH;refine h v1 w1 mB ((HB.alloc eQ _).grown hg (by simp;omega) (nE HO)) (World.grownBy.trans (World.grownBy_alloc W _ _) hg) ?_;rcases dH with dH|dH
 ·exact .inl dH
 ·exact .inr ⟨_,dH,by simp⟩
end
theorem Y9{w:World}{base:Nat}{e t:TypeId}{size n g:Nat}{v:Value}{xs:List Value}{cs:Array Value}(h:w.ownsRow base e size v n xs)(hg:w.heap[g]? =some (.cells cs t (0,0)))(mA:e≠t):some g≠v.ownBlock:=by
 rcases h.2 with⟨rfl,_⟩|⟨g',cap,cur,rfl,_,hh,_⟩
 ·simp [Value.ownBlock]
 ·intro he;have:g=g':=by simpa [Value.ownBlock] using he
  subst this;rw[hg] at hh;injection hh with hh
  injection hh with _ ht
  exact mA ht.symm
theorem kf{w:World}{g:Nat}{t:TypeId}{cs:Array Value}(h:w.heap[g]? =some (.cells cs t (0,0)))(i:Nat)(u:Value):(w.setCell ⟨g,i,none⟩ u).heap[g]? =some (.cells (cs.setIfInBounds i u) t (0,0)):=by
 simp [World.setCell,Array.getElem?_modify,h]
theorem aJ{w:World}{g:Nat}{t:TypeId}{cs:Array Value}(h:w.heap[g]? =some (.cells cs t (0,0))){p:Addr}(hp:g≠p.block)(u:Value):(w.setCell p u).heap[g]? =some (.cells cs t (0,0)):=(Below.heap_setCell w p u g hp).trans h
theorem aN{w:World}{g:Nat}{o:Obj}(h:w.heap[g]? =some o):g<w.heap.size:=(Array.getElem?_eq_some_iff.1 h).1
theorem ah{w:World}{g:Nat}{t:TypeId}{cs:Array Value}(h:w.heap[g]? =some (.cells cs t (0,0)))(i:Nat):w.cell? ⟨g,i,none⟩=cs[i]? :=cell_of_row w g i cs t (0,0) h
theorem bn{w:World}{g:Nat}{t:TypeId}{cs:Array Value}(h:w.heap[g]? =some (.cells cs t (0,0)))(i:Nat):w.frozen? ⟨g,i,none⟩=false:=by simp [World.frozen?,h]
theorem bo{w w1:World}{g:Nat}{o:Obj}{row:Option Nat}(h:w.heap[g]? =some o)(hg:w.grownBy w1 row)(mA:some g≠row):w1.heap[g]? =some o:=(hg.block g (aN h) mA).trans h
theorem dQ{w:World}{g g':Nat}{t t':TypeId}{cs cs':Array Value}(h:w.heap[g]? =some (.cells cs t (0,0)))(h':w.heap[g']? =some (.cells cs' t' (0,0)))(mA:t≠t'):g≠g':=by
 rintro rfl;rw[h] at h';injection h' with h'
 injection h' with _ ht
 exact mA ht
def iK(w w':World)(g:Nat)(row:Option Nat):Prop:=w.heap.size≤w'.heap.size∧∀i,i<w.heap.size→i≠g→some i≠row→w'.heap[i]? =w.heap[i]?
theorem iK.refl(w:World)(g:Nat)(row:Option Nat):iK w w g row:=⟨Nat.le_refl _,fun _ _ _ _=>rfl⟩
theorem iK.O4{w w1:World}{row:Option Nat}(h:w.grownBy w1 row)(g:Nat):iK w w1 g row:=⟨h.size,fun i hi _ hr=>h.block i hi hr⟩
theorem iK.akB{w w1:World}{g:Nat}{row:Option Nat}(h:iK w w1 g row)(j:Nat)(u:Value):iK w (w1.setCell ⟨g,j,none⟩ u) g row:=
 ⟨by simpa [World.setCell] using h.1,fun i hi hg hr=>(Below.heap_setCell w1 ⟨g,j,none⟩ u i hg).trans (h.2 i hi hg hr)⟩
theorem iK.trans{w w1 w2:World}{g:Nat}{row Y':Option Nat}(h:iK w w1 g row)(k:iK w1 w2 g Y')(hr:Y'=row∨∃b,Y'=some b∧w.heap.size≤b):iK w w2 g row:=
 ⟨Nat.le_trans h.1 k.1,fun i hi hg hn=>by
  refine(k.2 i (Nat.lt_of_lt_of_le hi h.1) hg ?_).trans (h.2 i hi hg hn);rcases hr with rfl|⟨b,rfl,hb⟩
  ·exact hn
  ·intro e;injection e with e
   omega⟩
theorem iK.eS{w w1:World}{g g':Nat}{row:Option Nat}{o:Obj}(h:iK w w1 g row)(hb:w.heap[g']? =some o)(hg:g'≠g)(hr:some g'≠row):w1.heap[g']? =some o:=(h.2 g' (aN hb) hg hr).trans hb
section
variable {P:Program}{ops:Array Oper}{o:Oper}{a:Act}{Q:Exit→Act→World→Prop}{K:Act→World→Prop}
theorem vp{w0 W:World}(base:Nat)(hw:Region.wanted o (yielded ops a.tmps)=true)(s x:Operand)(t e:TypeId)(z:Value)(size bytes:Nat)
 (ho:o.op= .call {callee:= .builtin .append,args:= #[s,x],argTypes:= #[t,t]})
 (ht:P.underlying t=some (.slice e)) (kE:(P.info? e).map (fun i=>(i.zero,i.size,i.bytes))=some (some z,size,bytes)) (hz:z.cells.size=size) (qC:0<size) (uh:0<bytes)
 (v:Value) (n:Nat) (xs ys:List Value) (hs:a.eval s=v) (hx:a.eval x= .slice (some ⟨W.heap.size,0,none⟩) 1 1) (Tr:ys.length=size) (h1:∀u∈ys,u.oneCell'=true)
 (HO:W.ownsRow base e size v n xs) (HB:Below base w0 W) (eQ:base≤W.heap.size) (hl:(n+1)*bytes≤140737488355328)
 (h:∀v1 w1,w1.ownsRow base e size v1 (n+1) (xs++ys)→Below base w0 w1→W.grownBy w1 v.ownBlock→(v1.ownBlock=v.ownBlock∨∃b,v1.ownBlock=some b∧W.heap.size≤b)→K (a.put o.dst v1) w1):
 if Region.wanted o (yielded ops a.tmps)=true then Oper.wp P o a (W.alloc (.cells ys.toArray e)) K Q else K (a.put o.dst undef) (W.alloc (.cells ys.toArray e)):=by
 obtain⟨i0,hi,zZ⟩:=Option.map_eq_some_iff.1 kE;simp only[Prod.mk.injEq] at zZ;obtain⟨yY,yZ,vn⟩:=zZ;have hlen:n+1≤140737488355328:=Nat.le_trans (Nat.le_mul_of_pos_right _ uh) hl;rw[if_pos hw]
 obtain⟨v1,w1,hr,mB,hg,_,dH⟩:=run_append_own_at (P:=P) (W.alloc (.cells ys.toArray e)) base t o.type e i0 z size bytes ht hi yY yZ vn hz qC v n xs (HO.alloc _) ⟨W.heap.size,0,none⟩ 1 1 ys (by rw[Tr];simp)
  (by simpa using World.news_of_block (cs:=ys.toArray) (t:=e) (fr:=(0,0)) (heap_alloc_new W (.cells ys.toArray e))) h1 (by simp only[maxLen];omega) hl (by simp;omega)
 unfold Oper.wp execOp;simp only[ho,resolve,invoke,builtin,Sem.run_bind,Sem.run_pure,Result.andThen_ok,List.map_toArray,List.map_cons,List.map_nil,hs,hx,hr];refine h v1 w1 mB ((HB.alloc eQ _).grown hg (by simp;omega) (nE HO)) (World.grownBy.trans (World.grownBy_alloc W _ _) hg) ?_;rcases dH with dH|dH
 ·exact .inl dH
 ·exact .inr ⟨_,dH,by simp⟩
end
theorem Jg{w:World}{base base':Nat}{e:TypeId}{size n:Nat}{v:Value}{xs:List Value}(h:w.ownsRow base e size v n xs)(hb:base'≤base):w.ownsRow base' e size v n xs:=by
 obtain⟨h1,h2⟩:=h;refine⟨h1,?_⟩;rcases h2 with h2|⟨g,cap,cur,rfl,hg,r⟩
 ·exact .inl h2
 ·exact .inr ⟨g,cap,cur,rfl,Nat.le_trans hb hg,r⟩
section
variable {α:Type}{enc:α→Value}{d:α}
def kB(enc:α→Value)(xs:List α):List Value:=xs.map enc
def akC(d:α)(xs:List α)(i:Int):α:=xs.getD i.toNat d
theorem eY(xs:List α):(kB enc xs).length=xs.length:=by simp [kB]
theorem yp(xs ys:List α):kB enc (xs++ys)=kB enc xs++kB enc ys:=by simp [kB]
theorem O5(xs:List α)(j:Nat)(h:j<xs.length):(kB enc xs)[j]? =some (enc (xs.getD j d)):=by
 simp [kB,List.getElem?_eq_getElem h,List.getD_eq_getElem?_getD]
def kO(enc:α→Value)(d:α)(w:World)(A:Option Addr)(n:Nat)(xs:List α):Prop:=
 xs.length=n∧n≤9223372036854775807∧(0<n→∃ad,A=some ad∧∀j,j<n→w.cell? (ad.add j)=some (enc (xs.getD j d)))
theorem kO.at_{w:World}{A:Option Addr}{n:Nat}{xs:List α}(h:kO enc d w A n xs)(i:Int)(h0:0≤i)(h1:i<n):∃ad,A=some ad∧w.cell? (ad.add i.toNat)=some (enc (akC d xs i)):=by
 obtain⟨ad,e,hc⟩:=h.2.2 (by omega);exact⟨ad,e,hc _ (by omega)⟩
theorem kO.ke{w:World}{A:Option Addr}{n:Nat}{xs:List α}(h:kO enc d w A n xs)(i:Nat)(hi:i≤n):kO enc d w A i (xs.take i):=by
 refine⟨by rw[List.length_take,h.1];omega,by have:=h.2.1;omega,fun hp=>?_⟩;obtain⟨ad,e,hc⟩:=h.2.2 (by omega);refine⟨ad,e,fun j hj=>?_⟩;rw[hc j (by omega)];simp [List.getD_eq_getElem?_getD,hj]
theorem kO.Ww{w:World}{A:Option Addr}{n c:Nat}{xs:List α}(h:kO enc d w A n xs)(i:Nat)(hi:i≤n)(hc:n≤c):kO enc d w (if c=i then A else A.map (·.add i)) (n-i) (xs.drop i):=by
 refine⟨by rw[List.length_drop,h.1],by have:=h.2.1;omega,fun hp=>?_⟩;obtain⟨ad,rfl,iJ⟩:=h.2.2 (by omega);rw[if_neg (by omega)];refine⟨ad.add i,rfl,fun j hj=>?_⟩
 have ha:(ad.add i).add j=ad.add (i+j):=by
  unfold Addr.add
  by_cases h1:i=0<;>by_cases h2:j=0<;>simp [h1,h2,Nat.add_assoc]
 rw[ha,iJ (i+j) (by omega)];simp [List.getD_eq_getElem?_getD,List.getElem?_drop]
end
def ao6(v v':Value):Prop:=∀k,v.ownBlock=some k→v'.ownBlock≠some k
theorem ac8{W w1:World}{v1 v':Value}{base n size n1 ac9:Nat}{e e1:TypeId}{xs xs1:List Value}(h1:w1.ownsRow W.heap.size e1 ac9 v1 n1 xs1)(ho:W.ownsRow base e size v' n xs):ao6 v1 v':=by
 intro k hk OK;have h2:=nE h1 k hk;have h3:=Dm ho k OK;omega
theorem ar{w:World}{g:Nat}{o:Obj}(h:w.heap[g]? =some o)(o':Obj):(w.alloc o').heap[g]? =some o:=(Below.heap_alloc w o' g (aN h)).trans h
theorem aY{w:World}{g:Nat}{o:Obj}(h:w.heap[g]? =some o):w.drew.heap[g]? =some o:=h
theorem cW{w:World}{g:Nat}{o:Obj}(h:w.heap[g]? =some o)(n:Nat):(w.drewN n).heap[g]? =some o:=h
theorem fe{w w1:World}{g:Nat}{o:Obj}(h:w.heap[g]? =some o)(hb:Below w.heap.size w w1):w1.heap[g]? =some o:=(hb.block g (aN h)).trans h
theorem aI(w:World)(o:Obj):(w.alloc o).heap[w.heap.size]? =some o:=heap_alloc_new w o
section
variable {P:Program}
theorem fY{fn:Func}{p u:Tmp}{ty:TypeId}(h:fn.results= #[.cell p ty,.tmp u])(tmps:Array Value)(w:World)(g:Nat)(t:TypeId)(cs:Array Value)(fr:Nat×Nat)(d:TypeDesc)
 (hp:tmps.getD p undef= .pointer (some ⟨g,0,none⟩)) (hg:w.heap[g]? =some (.cells cs t fr))
 (hu:P.underlying ty=some d) (hd:(match d with| .struct _| .array _ _=>true|_=>false)=true) (hi:(P.info? ty).map (·.size)=some cs.size):
 (results fn tmps).run P w= .ok (.tuple #[.agg cs,tmps.getD u undef]) w:=by
 have hp':tmps[p]?.getD undef= .pointer (some ⟨g,0,none⟩):=by simpa using hp
 simp [results,h,hp',asAddr,run_loadVar_row w g t ty cs fr d hg hu hd hi]
end
theorem Za{w:World}{base n m c size:Nat}{e:TypeId}{A:Option Addr}{xs:List Value}(h:w.ownsRow base e size (.slice A m c) n xs):m≤c:=by
 rcases h.2 with⟨he,_⟩|⟨g,cap,cur,he,_,_,Jh,_⟩
 ·injection he with _ h2 h3
  omega
 ·injection he with _ h2 h3
  omega
def mH{α:Type}(R:α→List Value→Prop)(e:TypeId)(size:Nat)(w:World)(base:Nat)(v:Value)(ps:List α):Prop:=
 ∃inner,w.ownsRow base e size v ps.length inner∧fg R size ps inner
section
variable {α:Type}{R R':α→List Value→Prop}{e:TypeId}{size:Nat}{w w1:World}{base:Nat}{v:Value}{ps:List α}
theorem mH.none_(R:α→List Value→Prop)(e:TypeId)(size:Nat)(w:World)(base:Nat):mH R e size w base (.slice none 0 0) []:=⟨[],pP _ _ _ _,fg.none _ _⟩
theorem mH.rU(h:mH R e size w base v ps)(hR:∀p c,R p c→R' p c):mH R' e size w base v ps:=by
 obtain⟨inner,ho,hr⟩:=h;exact⟨inner,ho,hr.rU hR⟩
theorem mH.reads(h:mH R e size w base v ps):∃A c,v= .slice A ps.length c∧ps.length≤c∧dD R size w A ps.length ps:=by
 obtain⟨inner,ho,hr⟩:=h;obtain⟨A,c,rfl,xq⟩:=B' ho hr rfl;exact⟨A,c,rfl,Za ho,xq⟩
theorem mH.O6(h:mH R e size w base v ps){g:Nat}{t:TypeId}{cells:Array Value}(hb:w.heap[g]? =some (.cells cells t (0,0)))(ht:e≠t):some g≠v.ownBlock:=by
 obtain⟨inner,ho,hr⟩:=h;exact Y9 ho hb ht
end
theorem dD.Ji{α:Type}{R:α→List Value→Prop}{size:Nat}{w:World}{ad:Addr}{n:Nat}{ps:List α}(h:dD R size w (some ad) n ps):
 ∃inner,fg R size ps inner∧∀j u,inner[j]? =some u→w.cell? (ad.add j)=some u:=by
 have key:∀m,m≤ps.length→∃inner,fg R size (ps.take m) inner∧∀j u,inner[j]? =some u→w.cell? (ad.add j)=some u:=by
  intro m
  induction m with
  |zero=>exact fun _=>⟨[],fg.none _ _,fun j u hu=>by simp at hu⟩
  |succ m ih=>
   intro hm;obtain⟨inner,hr,hc⟩:=ih (by omega);obtain⟨ad',he,iJ⟩:=h.2.2 (by have:=h.1;omega);injection he with he
   subst he;obtain⟨c,oK,hp,lZ⟩:=iJ m _ (List.getElem?_eq_getElem (show m<ps.length by omega));refine⟨inner++c,?_,fun j u hu=>?_⟩
   ·rw[List.take_succ_eq_append_getElem (show m<ps.length by omega)];exact hr.snoc hp oK
   ·have OL:inner.length=m*size:=by rw[hr.1,List.length_take,Nat.min_eq_left (by omega)]
    rcases Nat.lt_or_ge j inner.length with hj|hj
    ·rw[List.getElem?_append_left hj] at hu;exact hc j u hu
    ·rw[List.getElem?_append_right hj] at hu;have:=lZ (j-inner.length) u hu
     rwa [OL,Nat.add_sub_cancel' (by omega)] at this
 obtain⟨inner,hr,hc⟩:=key ps.length (Nat.le_refl _);rw[List.take_length] at hr;exact⟨inner,hr,hc⟩
section
variable {α:Type}{P:Program}
theorem vq(enc:α→Value)(d:α)(t e:TypeId)(kl kh:IntKind){i:TypeInfo}(ht:P.underlying t=some (.slice e))(hi:P.info? e=some i)(oL:i.size=1)(A:Option Addr)(c:Nat)(xs:List α)(a b:Int)(h0:0≤a)(h1:a≤b)(hm:b≤xs.length)(hc:xs.length≤c):
 ∃A':Option Addr,(∀W:World,(Instr.slice t (.slice A xs.length c) (some (.int kl a)) (some (.int kh b)) none).run P W= .ok (.slice A' ((xs.take b.toNat).drop a.toNat).length (c-a.toNat)) W)∧
  (∀w:World,kO enc d w A xs.length xs→kO enc d w A' ((xs.take b.toNat).drop a.toNat).length ((xs.take b.toNat).drop a.toNat))∧((xs.take b.toNat).drop a.toNat).length≤c-a.toNat:=by
 have cX:(xs.take b.toNat).length=b.toNat:=by rw[List.length_take];omega
 have hl:((xs.take b.toNat).drop a.toNat).length=b.toNat-a.toNat:=by rw[List.length_drop,cX]
 refine⟨if c=a.toNat then A else A.map (·.add a.toNat),fun W=>?_,fun w h=>?_,by rw[hl];omega⟩
 ·have Lf:P.elem t=e:=by simp [Program.elem,ht]
  have hu:P.underlying t=some (.slice (P.elem t)):=by rw[Lf];exact ht
  rw[run_slice_lh W t A xs.length c hu kl kh a b h0 h1 (by omega),Lf,hl];simp [sizeOf,typeInfo,hi,oL,sliced,Result.andThen]
 ·have h2:=(h.ke b.toNat (by omega)).Ww (c:=c) a.toNat (by omega) (by omega);rw[hl];exact h2
end
structure Kd (α:Type) where
 sz:Nat
 E:List Nat
 K:World→α→List Value→Prop
 M:World→Nat→(Nat→Prop)→α→List Value→Prop
 l9:∀{w x cs},K w x cs→cs.length=sz
 lM:∀{w x cs},K w x cs→∀u∈cs,u.oneCell'=true
 kP:∀{w w1:World}{x cs},Below w.heap.size w w1→K w x cs→K w1 x cs
 gh:∀{w base ok x cs},M w base ok x cs→K w x cs
 gi:∀{w base ok ok' x cs},(∀k,ok k→ok' k)→M w base ok x cs→M w base ok' x cs
 ia:∀{w:World}{base ok x cs},M w base ok x cs→M w base (fun k=>ok k∧base≤k∧k<w.heap.size∧∃q,q∈E∧∃cells,w.heap[k]? =some (.cells cells q (0,0))) x cs
 jz:∀{w w1:World}{base ok x cs},(∀k,ok k→w1.heap[k]? =w.heap[k]?)→M w base ok x cs→M w1 base ok x cs
 kQ:∀{w base base' ok x cs},base'≤base→M w base ok x cs→M w base' ok x cs
theorem O7{w w1:World}{base:Nat}{e:TypeId}{size n:Nat}{v:Value}{xs:List Value}(h:w.ownsRow base e size v n xs)(hm:∀k,v.ownBlock=some k→w1.heap[k]? =w.heap[k]?):w1.ownsRow base e size v n xs:=by
 obtain⟨h1,h2⟩:=h;refine⟨h1,?_⟩;rcases h2 with h2|⟨g,cap,cur,rfl,hg,hh,r⟩
 ·exact .inl h2
 ·exact .inr ⟨g,cap,cur,rfl,hg,(hm g (by simp [Value.ownBlock])).trans hh,r⟩
theorem qM{w:World}{base:Nat}{e:TypeId}{size n:Nat}{v:Value}{xs:List Value}(h:w.ownsRow base e size v n xs)(k:Nat)(hk:v.ownBlock=some k):∃cells,w.heap[k]? =some (.cells cells e (0,0)):=by
 rcases h.2 with⟨rfl,_⟩|⟨g,cap,cur,rfl,hg,hh,r⟩
 ·simp [Value.ownBlock] at hk
 ·have:g=k:=by simpa [Value.ownBlock] using hk
  subst this;exact⟨cur,hh⟩
namespace Kd
def C{α:Type}(d:Kd α)(w:World)(A:Option Addr)(n:Nat)(xs:List α):Prop:=dD (d.K w) d.sz w A n xs
def R{α:Type}(d:Kd α)(e:Nat)(w:World)(base:Nat)(ok:Nat→Prop)(v:Value)(xs:List α):Prop:=
 (∀k,v.ownBlock=some k→ok k)∧mH (d.M w base (fun k=>ok k∧some k≠v.ownBlock)) e d.sz w base v xs
section
variable {α:Type}{d:Kd α}{e:Nat}{w w1:World}{base:Nat}{ok ok':Nat→Prop}{v:Value}{xs:List α}
theorem aj{A:Option Addr}{n:Nat}(h:d.C w A n xs)(hb:Below w.heap.size w w1):d.C w1 A n xs:=dD.rU h hb (fun _ _ hp=>d.kP hb hp)
theorem lN(d:Kd α)(e:Nat)(w:World)(base:Nat)(ok:Nat→Prop):d.R e w base ok (.slice none 0 0) []:=⟨fun k hk=>by simp [Value.ownBlock] at hk,mH.none_ _ _ _ _ _⟩
theorem bJ(h:d.R e w base ok v xs)(jo:∀k,ok k→ok' k):d.R e w base ok' v xs:=⟨fun k hk=>jo k (h.1 k hk),h.2.rU (fun _ _ hp=>d.gi (fun k hk=>⟨jo k hk.1,hk.2⟩) hp)⟩
theorem eH(h:d.R e w base ok v xs):d.R e w base (fun k=>ok k∧base≤k∧k<w.heap.size∧∃q,q∈e::d.E∧∃cells,w.heap[k]? =some (.cells cells q (0,0))) v xs:=by
 obtain⟨h0,inner,ho,hr⟩:=h;refine⟨fun k hk=>?_,inner,ho,hr.rU (fun _ _ hp=>d.gi (fun k hk=>?_) (d.ia hp))⟩
 ·obtain⟨cells,hc⟩:=qM ho k hk;exact⟨h0 k hk,nE ho k hk,Dm ho k hk,e,List.mem_cons_self,cells,hc⟩
 ·obtain⟨⟨h1,h2⟩,h3,h4,q,hq,hc⟩:=hk;exact⟨⟨h1,h3,h4,q,List.mem_cons_of_mem _ hq,hc⟩,h2⟩
theorem uK(h:d.R e w base ok v xs)(hm:∀k,ok k→w1.heap[k]? =w.heap[k]?):d.R e w1 base ok v xs:=by
 obtain⟨h0,inner,ho,hr⟩:=h;exact⟨h0,inner,O7 ho (fun k hk=>hm k (h0 k hk)),hr.rU (fun _ _ hp=>d.jz (fun k hk=>hm k hk.1) hp)⟩
theorem bO{base':Nat}(h:d.R e w base ok v xs)(hb:base'≤base):d.R e w base' ok v xs:=by
 obtain⟨h0,inner,ho,hr⟩:=h;exact⟨h0,inner,Jg ho hb,hr.rU (fun _ _ hp=>d.kQ hb hp)⟩
theorem fQ(h:d.R e w base ok v xs)(hm:∀k,ok k→k<w.heap.size→w1.heap[k]? =w.heap[k]?):d.R e w1 base ok v xs:=
 bJ (uK (eH h) (fun k hk=>hm k hk.1 hk.2.2.1)) (fun _ hk=>hk.1)
theorem O8{x:α}{cs:List Value}(h:d.M w base ok x cs)(hm:∀k,ok k→k<w.heap.size→w1.heap[k]? =w.heap[k]?):d.M w1 base ok x cs:=
 d.gi (fun _ hk=>hk.1) (d.jz (fun k hk=>hm k hk.1 hk.2.2.1) (d.ia h))
theorem mX(h:d.R e w base ok v xs)(hb:Below w.heap.size w w1):d.R e w1 base ok v xs:=fQ h (fun k _ hk=>hb.block k hk)
theorem Lg{x:α}{cs:List Value}(h:d.M w base ok x cs)(hb:Below w.heap.size w w1):d.M w1 base ok x cs:=O8 h (fun k _ hk=>hb.block k hk)
theorem fu(h:d.R e w base ok v xs){p:Addr}(jo:∀k,ok k→k≠p.block)(u:Value):d.R e (w.setCell p u) base ok v xs:=fQ h (fun k ho _=>Below.heap_setCell w p u k (jo k ho))
theorem dc(h:d.R e w base ok v xs){g t:Nat}{cells:Array Value}(hb:w.heap[g]? =some (.cells cells t (0,0)))(ht:∀q,q∈e::d.E→q≠t):d.R e w base (fun k=>ok k∧k≠g) v xs:=
 bJ (eH h) (fun k hk=>⟨hk.1,by
  obtain⟨_,_,_,q,hq,Dp,hc⟩:=hk;rintro rfl;rw[hc] at hb;injection hb with hb
  injection hb with _ hb
  exact ht q hq hb⟩)
theorem jq(h:d.R e w base ok v xs){g t:Nat}{cells:Array Value}(hb:w.heap[g]? =some (.cells cells t (0,0)))(ht:∀q,q∈e::d.E→q≠t)(j:Nat)(u:Value):d.R e (w.setCell ⟨g,j,none⟩ u) base ok v xs:=
 bJ (fu (p:=⟨g,j,none⟩) (dc h hb ht) (fun _ hk=>hk.2) u) (fun _ hk=>hk.1)
theorem Dq(h:d.R e w base ok v xs):∃A c,v= .slice A xs.length c∧xs.length≤c∧d.C w A xs.length xs:=by
 obtain⟨A,c,he,hl,hr⟩:=mH.reads h.2;exact⟨A,c,he,hl,hr.rU (Below.refl _ _) (fun _ _ hp=>d.gh hp)⟩
theorem bm(h:d.R e w base ok v xs):∃A c,v= .slice A xs.length c:=by
 obtain⟨A,c,he,_⟩:=Dq h;exact⟨A,c,he⟩
theorem vu(h:d.R e w base ok v xs):∃inner,w.ownsRow base e d.sz v xs.length inner:=by
 obtain⟨_,inner,ho,_⟩:=h;exact⟨inner,ho⟩
theorem jA(h:d.R e w base ok v xs){g t:Nat}{cells:Array Value}(hb:w.heap[g]? =some (.cells cells t (0,0)))(ht:e≠t):some g≠v.ownBlock:=mH.O6 h.2 hb ht
end
def scalar{α:Type}(enc:α→Value)(h1:∀x,(enc x).oneCell'=true):Kd α where
 sz:=1
 E:=[]
 K:=fun _ x cs=>cs=[enc x]
 M:=fun _ _ _ x cs=>cs=[enc x]
 l9:=fun h=>by rw[h];rfl
 lM:=fun h u hu=>by
  rw[h] at hu;rw[List.mem_singleton.1 hu];exact h1 _
 kP:=fun _ h=>h
 gh:=fun h=>h
 gi:=fun _ h=>h
 ia:=fun h=>h
 jz:=fun _ h=>h
 kQ:=fun _ h=>h
def int(k:IntKind):Kd Int:=scalar (Value.int k) (fun _=>rfl)
def bool:Kd Bool:=scalar Value.bool (fun _=>rfl)
def string:Kd ByteArray:=scalar Value.string (fun _=>rfl)
def slice{α:Type}(e:Nat)(d:Kd α):Kd (List α) where
 sz:=1
 E:=e::d.E
 K:=fun w xs cs=>∃A c,cs=[.slice A xs.length c]∧xs.length≤c∧d.C w A xs.length xs
 M:=fun w base ok xs cs=>∃v,cs=[v]∧d.R e w base ok v xs
 l9:=by
  rintro w x cs ⟨A,c,rfl,_⟩;rfl
 lM:=by
  rintro w x cs ⟨A,c,rfl,_⟩ u hu;rw[List.mem_singleton.1 hu];rfl
 kP:=by
  rintro w w1 x cs hb ⟨A,c,rfl,hl,hr⟩;exact⟨A,c,rfl,hl,aj hr hb⟩
 gh:=by
  rintro w base ok x cs ⟨v,rfl,h⟩;obtain⟨A,c,rfl,hl,hr⟩:=Dq h;exact⟨A,c,rfl,hl,hr⟩
 gi:=by
  rintro w base ok ok' x cs jo ⟨v,rfl,h⟩;exact⟨v,rfl,bJ h jo⟩
 ia:=by
  rintro w base ok x cs ⟨v,rfl,h⟩;exact⟨v,rfl,eH h⟩
 jz:=by
  rintro w w1 base ok x cs hm ⟨v,rfl,h⟩;exact⟨v,rfl,uK h hm⟩
 kQ:=by
  rintro w base base' ok x cs hb ⟨v,rfl,h⟩;exact⟨v,rfl,bO h hb⟩
def pair{α β:Type}(a:Kd α)(b:Kd β):Kd (α×β) where
 sz:=a.sz+b.sz
 E:=a.E++b.E
 K:=fun w x cs=>∃c0 c1,cs=c0++c1∧a.K w x.1 c0∧b.K w x.2 c1
 M:=fun w base ok x cs=>∃c0 c1,cs=c0++c1∧a.M w base ok x.1 c0∧b.M w base ok x.2 c1
 l9:=by
  rintro w x cs ⟨c0,c1,rfl,h0,h1⟩;rw[List.length_append,a.l9 h0,b.l9 h1]
 lM:=by
  rintro w x cs ⟨c0,c1,rfl,h0,h1⟩ u hu;rcases List.mem_append.1 hu with hu|hu
  ·exact a.lM h0 u hu
  ·exact b.lM h1 u hu
 kP:=by
  rintro w w1 x cs hb ⟨c0,c1,rfl,h0,h1⟩;exact⟨c0,c1,rfl,a.kP hb h0,b.kP hb h1⟩
 gh:=by
  rintro w base ok x cs ⟨c0,c1,rfl,h0,h1⟩;exact⟨c0,c1,rfl,a.gh h0,b.gh h1⟩
 gi:=by
  rintro w base ok ok' x cs jo ⟨c0,c1,rfl,h0,h1⟩;exact⟨c0,c1,rfl,a.gi jo h0,b.gi jo h1⟩
 ia:=by
  rintro w base ok x cs ⟨c0,c1,rfl,h0,h1⟩;refine⟨c0,c1,rfl,a.gi ?_ (a.ia h0),b.gi ?_ (b.ia h1)⟩
  ·rintro k ⟨h2,h3,h4,q,hq,hc⟩;exact⟨h2,h3,h4,q,List.mem_append_left _ hq,hc⟩
  ·rintro k ⟨h2,h3,h4,q,hq,hc⟩;exact⟨h2,h3,h4,q,List.mem_append_right _ hq,hc⟩
 jz:=by
  rintro w w1 base ok x cs hm ⟨c0,c1,rfl,h0,h1⟩;exact⟨c0,c1,rfl,a.jz hm h0,b.jz hm h1⟩
 kQ:=by
  rintro w base base' ok x cs hb ⟨c0,c1,rfl,h0,h1⟩;exact⟨c0,c1,rfl,a.kQ hb h0,b.kQ hb h1⟩
def Ts{α β:Type}(d:Kd α)(f:β→α):Kd β where
 sz:=d.sz
 E:=d.E
 K:=fun w x cs=>d.K w (f x) cs
 M:=fun w base ok x cs=>d.M w base ok (f x) cs
 l9:=d.l9
 lM:=d.lM
 kP:=d.kP
 gh:=d.gh
 gi:=d.gi
 ia:=d.ia
 jz:=d.jz
 kQ:=d.kQ
theorem vv{α:Type}{d:Kd α}{w:World}{A:Option Addr}{n:Nat}{xs:List α}(h:d.C w A n xs)(z:α)(i:Int)(h0:0≤i)(h1:i<n):
 ∃ad c,A=some ad∧c.length=d.sz∧d.K w (xs.getD i.toNat z) c∧∀j u,c[j]? =some u→w.cell? (ad.add (i.toNat*d.sz+j))=some u:=dD.FZ h z i h0 h1
theorem Aa{α:Type}{d:Kd α}{e base:Nat}{ok kc:Nat→Prop}{W w1:World}{v v1:Value}{xs:List α}{p:α}{inner cs:List Value}(h0:∀k,v.ownBlock=some k→ok k)(hr:fg (d.M W base (fun k=>ok k∧some k≠v.ownBlock)) d.sz xs inner)(hp:d.M W base kc p cs)(oQ:∀k,kc k→ok k∧some k≠v.ownBlock)(gj:∀k,W.heap.size≤k→ok k)
 (mB:w1.ownsRow base e d.sz v1 (xs.length+1) (inner++cs)) (hg:W.grownBy w1 v.ownBlock) (dH:v1.ownBlock=v.ownBlock∨∃b,v1.ownBlock=some b∧W.heap.size≤b):d.R e w1 base ok v1 (xs++[p]):=by
 have mA:∀k,some k≠v.ownBlock→k<W.heap.size→some k≠v1.ownBlock:=by
  intro k hk cX;rcases dH with dH|⟨b,hb,hle⟩
  ·rw[dH];exact hk
  ·rw[hb];intro he;injection he with he
   omega
 have step:∀{q:α}{c:List Value}{o:Nat→Prop},d.M W base o q c→(∀k,o k→ok k∧some k≠v.ownBlock)→d.M w1 base (fun k=>ok k∧some k≠v1.ownBlock) q c:=by
  intro q c o hq ho;have h1:=d.jz (w1:=w1) (fun k hk=>hg.block k hk.2.2.1 (ho k hk.1).2) (d.ia hq);exact d.gi (fun k hk=>⟨(ho k hk.1).1,mA k (ho k hk.1).2 hk.2.2.1⟩) h1
 refine⟨fun k hk=>?_,inner++cs,by rw[List.length_append,List.length_singleton];exact mB,?_⟩
 ·rcases dH with dH|⟨b,hb,hle⟩
  ·exact h0 k (dH▸hk)
  ·rw[hb] at hk;injection hk with hk
   exact gj k (by omega)
 ·exact(hr.rU (fun _ _ hq=>step hq (fun _ hk=>hk))).snoc (step hp oQ) (d.l9 (d.gh hp))
section
variable {P:Program}{ops:Array Oper}{rest:List Oper}{o:Oper}{a:Act}{Q:Exit→Act→World→Prop}{α:Type}
theorem jO(d:Kd α){w0 W:World}(base:Nat)(um:o.guard=none)(s x:Operand)(t e:TypeId)(z:Value)(bytes:Nat)
 (ho:o.op= .call {callee:= .builtin .append,args:= #[s,x],argTypes:= #[t,t]})
 (ht:P.underlying t=some (.slice e)) (kE:(P.info? e).map (fun i=>(i.zero,i.size,i.bytes))=some (some z,d.sz,bytes)) (hz:z.cells.size=d.sz) (qC:0<d.sz) (uh:0<bytes)
 (v:Value) (xs:List α) (p:α) (cs:List Value) (ok kc:Nat→Prop) (hs:a.eval s=v) (hx:a.eval x= .slice (some ⟨W.heap.size,0,none⟩) 1 1) (hp:d.M W base kc p cs) (oQ:∀k,kc k→ok k∧some k≠v.ownBlock) (gj:∀k,W.heap.size≤k→ok k)
 (HO:d.R e W base ok v xs) (HB:Below base w0 W) (eQ:base≤W.heap.size) (hl:(xs.length+1)*bytes≤140737488355328)
 (h:∀v1 w1,d.R e w1 base ok v1 (xs++[p])→Below base w0 w1→W.grownBy w1 v.ownBlock→(v1.ownBlock=v.ownBlock∨∃b,v1.ownBlock=some b∧W.heap.size≤b)→wpList P ops Q rest (a.put o.dst v1) w1):
 wpList P ops Q (o::rest) a (W.alloc (.cells cs.toArray e)):=by
 obtain⟨h0,inner,mB,hr⟩:=HO;refine jy base um s x t e z d.sz bytes ho ht kE hz qC uh v xs.length inner cs hs hx (d.l9 (d.gh hp)) (d.lM (d.gh hp)) mB HB eQ hl ?_;intro v1 w1 Ab im zp O9;exact h v1 w1 (Aa h0 hr hp oQ gj Ab zp O9) im zp O9
end
section
variable {P:Program}{ops:Array Oper}{o:Oper}{a:Act}{Q:Exit→Act→World→Prop}{Kc:Act→World→Prop}{α:Type}
theorem uo(d:Kd α){w0 W:World}(base:Nat)(hw:Region.wanted o (yielded ops a.tmps)=true)(s x:Operand)(t e:TypeId)(z:Value)(bytes:Nat)
 (ho:o.op= .call {callee:= .builtin .append,args:= #[s,x],argTypes:= #[t,t]})
 (ht:P.underlying t=some (.slice e)) (kE:(P.info? e).map (fun i=>(i.zero,i.size,i.bytes))=some (some z,d.sz,bytes)) (hz:z.cells.size=d.sz) (qC:0<d.sz) (uh:0<bytes)
 (v:Value) (xs:List α) (p:α) (cs:List Value) (ok kc:Nat→Prop) (hs:a.eval s=v) (hx:a.eval x= .slice (some ⟨W.heap.size,0,none⟩) 1 1) (hp:d.M W base kc p cs) (oQ:∀k,kc k→ok k∧some k≠v.ownBlock) (gj:∀k,W.heap.size≤k→ok k)
 (HO:d.R e W base ok v xs) (HB:Below base w0 W) (eQ:base≤W.heap.size) (hl:(xs.length+1)*bytes≤140737488355328)
 (h:∀v1 w1,d.R e w1 base ok v1 (xs++[p])→Below base w0 w1→W.grownBy w1 v.ownBlock→(v1.ownBlock=v.ownBlock∨∃b,v1.ownBlock=some b∧W.heap.size≤b)→Kc (a.put o.dst v1) w1):
 if Region.wanted o (yielded ops a.tmps)=true then Oper.wp P o a (W.alloc (.cells cs.toArray e)) Kc Q else Kc (a.put o.dst undef) (W.alloc (.cells cs.toArray e)):=by
 obtain⟨h0,inner,mB,hr⟩:=HO;refine vp base hw s x t e z d.sz bytes ho ht kE hz qC uh v xs.length inner cs hs hx (d.l9 (d.gh hp)) (d.lM (d.gh hp)) mB HB eQ hl ?_;intro v1 w1 Ab im zp O9;exact h v1 w1 (Aa h0 hr hp oQ gj Ab zp O9) im zp O9
end
theorem F0{α:Type}{enc:α→Value}(xs:List α):fg (fun(x:α)(cs:List Value)=>cs=[enc x]) 1 xs (kB enc xs):=by
 refine⟨by simp [kB],fun j p hj=>?_⟩;obtain⟨hl,hp⟩:=List.getElem?_eq_some_iff.1 hj;have hl':j<(kB enc xs).length:=by rw[eY];exact hl
 rw[Nat.mul_one,List.drop_eq_getElem_cons hl'];simp [kB,hp]
theorem Ae{α:Type}{enc:α→Value}{h1:∀x,(enc x).oneCell'=true}{e:Nat}{w:World}{base:Nat}{ok:Nat→Prop}{v:Value}{xs:List α}(ho:w.ownsRow base e 1 v xs.length (kB enc xs))(jo:∀k,v.ownBlock=some k→ok k):(scalar enc h1).R e w base ok v xs:=⟨jo,kB enc xs,ho,F0 xs⟩
theorem Af{α:Type}{enc:α→Value}{h1:∀x,(enc x).oneCell'=true}{e:Nat}{w:World}{base:Nat}{ok:Nat→Prop}{v:Value}{xs:List α}(h:(scalar enc h1).R e w base ok v xs):w.ownsRow base e 1 v xs.length (kB enc xs):=by
 obtain⟨_,inner,ho,hr⟩:=h
 have:inner=kB enc xs:=by
  apply List.ext_getElem?;intro j;rcases Nat.lt_or_ge j xs.length with hj|hj
  ·have h2:=hr.2 j _ (List.getElem?_eq_getElem hj);have hl:j<inner.length:=by have:=hr.1;simp [scalar] at this;omega
   have h3:(inner.drop (j*1)).take 1=[enc xs[j]]:=h2;rw[Nat.mul_one,List.drop_eq_getElem_cons hl] at h3
   have h4:inner[j]=enc xs[j]:=by
    have h5:=congrArg List.head? h3;rw[List.take_succ_cons] at h5;exact Option.some.inj h5
   rw[List.getElem?_eq_getElem hl,h4];simp [kB,List.getElem?_eq_getElem hj]
  ·have h3:inner.length=xs.length:=by have:=hr.1;simp [scalar] at this;omega
   rw[List.getElem?_eq_none (by omega),List.getElem?_eq_none (by rw[eY];omega)]
 rw[←this];exact ho
theorem Ah{α:Type}{enc:α→Value}{d:α}{h1:∀x,(enc x).oneCell'=true}{w:World}{A:Option Addr}{n:Nat}{xs:List α}(h:kO enc d w A n xs):(scalar enc h1).C w A n xs:=by
 refine⟨h.1,h.2.1,fun hn=>?_⟩;obtain⟨ad,e,hc⟩:=h.2.2 hn;refine⟨ad,e,fun j p hj=>⟨[enc p],rfl,rfl,fun i u hu=>?_⟩⟩;obtain⟨hl,hp⟩:=List.getElem?_eq_some_iff.1 hj;have h2:=hc j (by have:=h.1;omega);rw[List.getD_eq_getElem?_getD,hj] at h2;cases i with
 |zero=>
  have:enc p=u:=by simpa using hu
  subst this;simpa [scalar] using h2
 |succ i=>simp at hu
theorem oR{α:Type}{enc:α→Value}{d:α}{h1:∀x,(enc x).oneCell'=true}{w:World}{A:Option Addr}{n:Nat}{xs:List α}(h:(scalar enc h1).C w A n xs):kO enc d w A n xs:=by
 refine⟨h.1,h.2.1,fun hn=>?_⟩;obtain⟨ad,e,hc⟩:=h.2.2 hn;refine⟨ad,e,fun j hj=>?_⟩;have hl:j<xs.length:=by have:=h.1;omega
 obtain⟨c,_,hK,iJ⟩:=hc j _ (List.getElem?_eq_getElem hl);have hK':c=[enc xs[j]]:=hK;subst hK';have:=iJ 0 _ rfl;simpa [scalar,List.getD_eq_getElem?_getD,List.getElem?_eq_getElem hl] using this
end Kd
namespace Kd
theorem pQ{α:Type}{d:Kd α}{e base:Nat}{ok:Nat→Prop}{W w1:World}{u v v1:Value}{xs:List α}(h:d.R e W base (fun k=>ok k∧some k≠v.ownBlock) u xs)(hg:W.grownBy w1 v.ownBlock)(dH:v1.ownBlock=v.ownBlock∨∃b,v1.ownBlock=some b∧W.heap.size≤b):d.R e w1 base (fun k=>ok k∧some k≠v1.ownBlock) u xs:=by
 refine bJ (uK (eH h) (fun k hk=>hg.block k hk.2.2.1 hk.1.2)) (fun k hk=>⟨hk.1.1,?_⟩);rcases dH with dH|⟨b,hb,hle⟩
 ·rw[dH];exact hk.1.2
 ·rw[hb];intro he;injection he with he
  have:=hk.2.2.1;omega
theorem ada{α:Type}{d:Kd α}{e base:Nat}{ok:Nat→Prop}{w:World}{v:Value}{xs:List α}(h:d.R e w base ok v xs):(slice e d).M w base ok xs [v]:=⟨v,rfl,h⟩
end Kd
namespace Kd
section
variable {α β:Type}{d:Kd α}{d':Kd β}{e e':Nat}{w w1 W:World}{base b b':Nat}{ok ok' okv oku:Nat→Prop}{v u:Value}{xs:List α}{ys:List β}
theorem bQ(h:d.R e w base ok v xs)(o:Obj):d.R e (w.alloc o) base ok v xs:=mX h (ab (Below.refl _ _) o)
theorem cR(h:d.R e w base ok v xs):d.R e w.drew base ok v xs:=mX h (dF (Below.refl _ _))
theorem dh(h:d.R e w base ok v xs)(m:Nat):d.R e (w.drewN m) base ok v xs:=mX h (cZ (Below.refl _ _) m)
theorem cY{A:Option Addr}{n:Nat}(h:d.C w A n xs):d.C w.drew A n xs:=aj h (dF (Below.refl _ _))
theorem adb{A:Option Addr}{n:Nat}(h:d.C w A n xs):n≤9223372036854775807:=h.2.1
theorem aW{A:Option Addr}{n c:Nat}(h:d.R e w base ok (.slice A n c) xs):n=xs.length∧n≤c∧d.C w A xs.length xs:=by
 obtain⟨A',c',he,hl,hr⟩:=Dq h;injection he with h1 h2 h3
 subst h1;exact⟨h2,by omega,hr⟩
theorem pM(h:d.R e w base ok v xs):∀k,v.ownBlock=some k→k<w.heap.size:=by
 obtain⟨inner,ho⟩:=vu h;exact Dm ho
theorem iE(h:d.R e w base ok v xs):∀k,v.ownBlock=some k→base≤k:=by
 obtain⟨inner,ho⟩:=vu h;exact nE ho
theorem Ai(h:d.R e w base ok v xs){g:Nat}(jo:∀k,ok k→k≠g):some g≠v.ownBlock:=fun e=>jo g (h.1 g e.symm) rfl
theorem Aj(h:d.R e w base ok v xs)(hp:0<xs.length):∃g cap,v= .slice (some ⟨g,0,none⟩) xs.length cap∧base≤g∧g<w.heap.size∧∃cells,w.heap[g]? =some (.cells cells e (0,0)):=by
 obtain⟨inner,ho⟩:=vu h;obtain⟨g,cap,he,hb,hl⟩:=ho.form hp;obtain⟨cells,hc⟩:=qM ho g (by rw[he];simp [Value.ownBlock]);exact⟨g,cap,he,hb,hl,cells,hc⟩
theorem ah8(hu:d'.R e' W b oku u ys)(h:d.R e w1 W.heap.size okv v xs)(hb:Below W.heap.size W w1):d'.R e' w1 b (fun k=>oku k∧some k≠v.ownBlock) u ys:=by
 obtain⟨inner,ho⟩:=vu h;exact bJ (uK (eH hu) (fun k hk=>hb.block k hk.2.2.1)) (fun k hk=>⟨hk.1,fun he=>by have:=nE ho k he.symm;have:=hk.2.2.1;omega⟩)
end
section
variable {w W:World}{A:Option Addr}{n:Nat}
theorem nV{k:IntKind}{xs:List Int}(h:(Kd.int k).C w A n xs)(i:Int)(h0:0≤i)(h1:i<n):∃ad,A=some ad∧w.cell? (ad.add i.toNat)=some (.int k (rd xs i)):=
 kO.at_ (oR (enc:=Value.int k) (d:=(0:Int)) (h1:=fun _=>rfl) h) i h0 h1
variable {α:Type}{enc:α→Value}{h1:∀x,(enc x).oneCell'=true}{e base g cap:Nat}{ok:Nat→Prop}{xs:List α}
end
section
variable {P:Program}{ops:Array Oper}{rest:List Oper}{o:Oper}{a:Act}{Q:Exit→Act→World→Prop}
theorem Cy{W w1:World}{v:Value}(um:o.guard=none)(iI:(execOp a.eval o).run P W= .ok (.value v) w1)(h:wpList P ops Q rest (a.put o.dst v) w1):wpList P ops Q (o::rest) a W:=by
 refine wpList_plain um fun K hK=>?_;unfold Oper.wp;rw[iI];exact hK _ _ h
variable {α:Type}
theorem uq(d:Kd α){w0 W:World}(base e:Nat)(um:o.guard=none){N:Tmp}(_hd:o.dst=some N){xs:List α}{inner:List Value}{ok kc:Nat→Prop}
 (iI:(execOp a.eval o).run P W= .ok (.value (.slice (some ⟨W.heap.size,0,none⟩) xs.length xs.length)) (W.alloc (.cells inner.toArray e)))
 (F6:fg (d.M W base kc) d.sz xs inner) (jo:∀k,kc k→ok k) (gj:ok W.heap.size) (HB:Below base w0 W) (eQ:base≤W.heap.size) (hm:xs.length≤9223372036854775807)
 (h:∀v1 w1,d.R e w1 base ok v1 xs→Below base w0 w1→W.grownBy w1 none→(∃b,v1.ownBlock=some b∧W.heap.size≤b)→wpList P ops Q rest (a.put o.dst v1) w1):wpList P ops Q (o::rest) a W:=by
 refine Cy um iI (h _ _ ⟨fun k hk=>?_,inner,?_,?_⟩ (HB.alloc eQ _) (World.grownBy_alloc W _ none) ⟨W.heap.size,by simp [Value.ownBlock],Nat.le_refl _⟩)
 ·have:W.heap.size=k:=by simpa [Value.ownBlock] using hk
  subst this;exact gj
 ·have h2:=World.ownsRow_lit (base:=base) (e:=e) (size:=d.sz) W inner.toArray xs.length eQ (by simpa [maxLen] using hm) (by simpa using F6.1);simpa using h2
 ·refine F6.rU (fun p c hp=>d.gi (fun k hk=>⟨jo k hk.1,fun he=>?_⟩) (Lg (d.ia hp) (ab (Below.refl _ _) _)));have h3:k=W.heap.size:=by simpa [Value.ownBlock] using he
  have:=hk.2.2.1;omega
theorem Cz{α:Type}{R:α→List Value→Prop}{z:Value}{size:Nat}{z0:α}(hz:z.cells.size=size)(hs:0<size)(h0:R z0 z.cells.toList)(m:Nat):fg R size (List.replicate m z0) (madeCells z.cells (m*size)).toList:=by
 refine⟨by simp [size_madeCells],fun j p hj=>?_⟩;obtain⟨Dn,hp⟩:=List.getElem?_eq_some_iff.1 hj;have hjm:j<m:=by simpa using Dn
 have hp':z0=p:=by simpa using hp
 subst hp';have hle:j*size+size≤m*size:=by rw[←Nat.succ_mul];exact Nat.mul_le_mul_right _ hjm
 have:((madeCells z.cells (m*size)).toList.drop (j*size)).take size=z.cells.toList:=by
  apply List.ext_getElem
  ·simp [size_madeCells,hz];omega
  ·intro i h1 h2;have hi:i<size:=by rw[Array.length_toList,hz] at h2;exact h2
   have akE:(j*size+i)%size=i:=by
    rw[Nat.mul_comm,Nat.mul_add_mod];exact Nat.mod_eq_of_lt hi
   simp [madeCells,hz,akE];rw[getElem!_pos z.cells i (by omega)]
 rw[this];exact h0
theorem Ak(d:Kd α){w0 W:World}(base e:Nat)(um:o.guard=none){N:Tmp}(hd:o.dst=some N)(t:TypeId)(x y:Operand)(ho:o.op= .makeSlice t x y)(n:Int)(hx:a.eval x= .int .i64 n)(hy:a.eval y= .int .i64 n)
 (ht:P.underlying t=some (.slice e)) (z:Value) (bytes:Nat) (kE:(P.info? e).map (fun i=>(i.zero,i.size,i.bytes))=some (some z,d.sz,bytes)) (hz:z.cells.size=d.sz) (qC:0<d.sz) (uh:0<bytes)
 (z0:α) {ok kc:Nat→Prop} (hzero:d.M W base kc z0 z.cells.toList) (jo:∀k,kc k→ok k) (gj:ok W.heap.size) (h0:0≤n) (hl:n.toNat*bytes≤281474976710656) (HB:Below base w0 W) (eQ:base≤W.heap.size)
 (h:∀v1 w1,d.R e w1 base ok v1 (List.replicate n.toNat z0)→Below base w0 w1→W.grownBy w1 none→(∃b,v1.ownBlock=some b∧W.heap.size≤b)→wpList P ops Q rest (a.put o.dst v1) w1):wpList P ops Q (o::rest) a W:=by
 obtain⟨m,rfl⟩:=Int.eq_ofNat_of_zero_le h0;simp only[Int.toNat_natCast] at hl h;obtain⟨i0,hi,zZ⟩:=Option.map_eq_some_iff.1 kE;simp only[Prod.mk.injEq] at zZ;obtain⟨yY,yZ,vn⟩:=zZ;have hm:m≤281474976710656:=Nat.le_trans (Nat.le_mul_of_pos_right _ uh) hl
 have hr:=run_make (P:=P) W t e i0 z ht hi yY .i64 .i64 (m:Int) (m:Int) (by omega) (by omega)
  (by
   have h3:((i0.bytes*m:Nat):Int)≤281474976710656:=by rw[vn,Nat.mul_comm];omega
   rwa [Int.natCast_mul] at h3) (by omega)
 simp only[Int.toNat_natCast] at hr;rw[yZ] at hr;refine uq d base e um hd (xs:=List.replicate m z0) (inner:=(madeCells z.cells (m*d.sz)).toList) (kc:=kc) (ok:=ok) ?_ (Cz hz qC hzero m) jo gj HB eQ (by simp;omega) h;simp [execOp,ho,hx,hy,hr]
end
end Kd
section
variable {P:Program}
theorem xr(t e:TypeId)(kh:IntKind){i:TypeInfo}(ht:P.underlying t=some (.slice e))(hi:P.info? e=some i)(A:Option Addr)(n c:Nat)(j:Int)(h0:0≤j)(hm:j≤n)(hc:n≤c):
 ∀W:World,(Instr.slice t (.slice A n c) none (some (.int kh j)) none).run P W= .ok (.slice A j.toNat c) W:=by
 intro W;have Lf:P.elem t=e:=by simp [Program.elem,ht]
 have hu:P.underlying t=some (.slice (P.elem t)):=by rw[Lf];exact ht
 have ha:(A.map fun x=>x.add 0)=A:=by cases A<;>simp [Addr.add]
 rw[run_slice_h W t A n c hu kh j h0 (by omega),Lf];simp [sizeOf,typeInfo,hi,sliced,Result.andThen,ha]
theorem F8(t e:TypeId)(kl:IntKind){i:TypeInfo}(ht:P.underlying t=some (.slice e))(hi:P.info? e=some i)(size:Nat)(oL:i.size=size)(A:Option Addr)(n c:Nat)(j:Int)(h0:0≤j)(hm:j≤n):
 ∀W:World,(Instr.slice t (.slice A n c) (some (.int kl j)) none none).run P W= .ok (.slice (if c=j.toNat then A else A.map (·.add (j.toNat*size))) (n-j.toNat) (c-j.toNat)) W:=by
 intro W;have Lf:P.elem t=e:=by simp [Program.elem,ht]
 have hu:P.underlying t=some (.slice (P.elem t)):=by rw[Lf];exact ht
 rw[run_slice_l W t A n c hu kl j h0 hm,Lf];simp [sizeOf,typeInfo,hi,oL,sliced,Result.andThen]
end
def asJ(w:World)(base:Nat)(e:TypeId)(size:Nat)(v:Value)(n:Nat)(xs:List Value):Prop:=
 xs.length=n*size∧
 ((n=0∧∃A,v= .slice A 0 0∧∀a,A=some a→base≤a.block∧∃cur,w.heap[a.block]? =some (.cells cur e (0,0)))∨
  ∃g off cap cur,v= .slice (some ⟨g,off*size,none⟩) n cap∧base≤g∧w.heap[g]? =some (.cells cur e (0,0))∧n≤cap∧off+cap≤maxLen∧cur.size=(off+cap)*size∧(cur.toList.drop (off*size)).take (n*size)=xs)
section
variable {w w1:World}{base n size:Nat}{e:TypeId}{v:Value}{xs:List Value}
theorem Zb(g o j:Nat):(⟨g,o,none⟩:Addr).add j=⟨g,o+j,none⟩:=by unfold Addr.add;split<;>simp_all
theorem rV{g:Nat}:∀(vs:List Value)(o:Nat){w:World}(k:Nat),k≠g→(w.setCells g o vs).heap[k]? =w.heap[k]?
 |[],_,_,_,_=>rfl
 |v::r,o,w,k,hk=>by
  rw[World.setCells,rV r (o+1) k hk];exact Below.heap_setCell w ⟨g,o,none⟩ v k hk
theorem qD(g:Nat):∀(vs:List Value)(o:Nat)(w:World),(w.setCells g o vs).os=w.os∧(w.setCells g o vs).tape=w.tape∧(w.setCells g o vs).output=w.output∧(w.setCells g o vs).heap.size=w.heap.size
 |[],_,_=>⟨rfl,rfl,rfl,rfl⟩
 |v::r,o,w=>by
  obtain⟨h1,h2,h3,h4⟩:=qD g r (o+1) (w.setCell ⟨g,o,none⟩ v);rw[World.setCells];exact⟨h1,h2,h3,by rw[h4];simp [World.setCell]⟩
theorem rW{g:Nat}{e:TypeId}:∀(vs:List Value)(o:Nat)(w:World)(cur:Array Value),w.heap[g]? =some (.cells cur e (0,0))→o+vs.length≤cur.size→
 ∃Dr,(w.setCells g o vs).heap[g]? =some (.cells Dr e (0,0))∧Dr.size=cur.size∧Dr.toList=cur.toList.take o++vs++cur.toList.drop (o+vs.length)
 |[],o,w,cur,h,_=>⟨cur,h,rfl,by simp⟩
 |v::r,o,w,cur,h,hl=>by
  have h2:=kf h o v;simp only[List.length_cons] at hl;obtain⟨Dr,h3,h4,h5⟩:=rW r (o+1) (w.setCell ⟨g,o,none⟩ v) _ h2 (by simp;omega);refine⟨Dr,h3,by rw[h4];simp,?_⟩;rw[h5,Array.toList_setIfInBounds];have ho:o<cur.toList.length:=by rw[Array.length_toList];omega
  rw[List.take_set,List.drop_set_of_lt (by omega)];simp only[List.length_cons];rw[show o+1+r.length=o+(r.length+1) by omega]
  congr 1
  rw[List.take_succ_eq_append_getElem ho,List.set_append_right _ _ (by rw[List.length_take];omega)];have sS:o<cur.size:=by omega
  simp [Nat.min_eq_left (Nat.le_of_lt sS)]
end
namespace Kd
section
variable {α:Type}{d:Kd α}{e e':Nat}{w w1 W:World}{base:Nat}{ok:Nat→Prop}{u v:Value}{xs:List α}
theorem gz(h:d.R e w base ok v xs):∀k,v.ownBlock=some k→∃cells,w.heap[k]? =some (.cells cells e (0,0)):=by
 obtain⟨inner,ho⟩:=vu h;exact fun k hk=>qM ho k hk
theorem kg(h:d.R e W base ok u xs)(hty:∀k,v.ownBlock=some k→∃cells,W.heap[k]? =some (.cells cells e' (0,0)))(ht:∀q,q∈e::d.E→q≠e')(hg:W.grownBy w1 v.ownBlock):d.R e w1 base ok u xs:=by
 refine bJ (uK (eH h) (fun k hk=>hg.block k hk.2.2.1 (fun he=>?_))) (fun _ hk=>hk.1);obtain⟨_,_,_,q,hq,cells,hc⟩:=hk;obtain⟨Dp,I'⟩:=hty k he.symm;rw[hc] at I';injection I' with I'
 injection I' with _ I'
 exact ht q hq I'
theorem oT(h:d.R e W base ok u xs)(hty:∀k,v.ownBlock=some k→∃cells,W.heap[k]? =some (.cells cells e' (0,0)))(ht:∀q,q∈e::d.E→q≠e'):d.R e W base (fun k=>ok k∧some k≠v.ownBlock) u xs:=by
 refine bJ (eH h) (fun k hk=>⟨hk.1,fun he=>?_⟩);obtain⟨_,_,_,q,hq,cells,hc⟩:=hk;obtain⟨Dp,I'⟩:=hty k he.symm;rw[hc] at I';injection I' with I'
 injection I' with _ I'
 exact ht q hq I'
theorem nF(hu:d.R e W base ok u xs)(eQ:∀k,v.ownBlock=some k→W.heap.size≤k)(hb:Below W.heap.size W w1):d.R e w1 base (fun k=>ok k∧some k≠v.ownBlock) u xs:=
 bJ (uK (eH hu) (fun k hk=>hb.block k hk.2.2.1)) (fun k hk=>⟨hk.1,fun he=>by have:=eQ k he.symm;have:=hk.2.2.1;omega⟩)
theorem sU(h:d.R e w1 W.heap.size ok v xs)(cX:∀k,u.ownBlock=some k→k<W.heap.size):d.R e w1 W.heap.size (fun k=>ok k∧some k≠u.ownBlock) v xs:=
 bJ (eH h) (fun k hk=>⟨hk.1,fun he=>by have:=cX k he.symm;have:=hk.2.1;omega⟩)
theorem sV(cX:∀k,u.ownBlock=some k→k<W.heap.size):∀k,W.heap.size≤k→some k≠u.ownBlock:=fun k hk he=>by have:=cX k he.symm;omega
end
end Kd
theorem vw{α:Type}(a oU:List α)(o:Nat)(h:o+oU.length≤a.length)(q:Nat):
 (a.take o++oU++a.drop (o+oU.length))[q]? =if q<o then a[q]? else if q<o+oU.length then oU[q-o]? else a[q]? :=by
 have hl:(a.take o).length=o:=by rw[List.length_take];omega
 rw[List.append_assoc]
 by_cases h1:q<o
 ·rw[if_pos h1,List.getElem?_append_left (by omega),List.getElem?_take,if_pos h1]
 ·rw[if_neg h1,List.getElem?_append_right (by omega),hl]
  by_cases h2:q<o+oU.length
  ·rw[if_pos h2,List.getElem?_append_left (by omega)]
  ·rw[if_neg h2,List.getElem?_append_right (by omega),List.getElem?_drop]
   congr 1
   omega
namespace Kd
section
variable {α:Type}{d:Kd α}{e base g n cap:Nat}{ok kc:Nat→Prop}{W:World}{xs:List α}
theorem O'(h:d.R e W base ok (.slice (some ⟨g,0,none⟩) n cap) xs)(z:α)(i:Int)(h0:0≤i)(h1:i<n):
 ∃c,c.length=d.sz∧d.M W base (fun k=>ok k∧k≠g) (xs.getD i.toNat z) c∧(∀j u,c[j]? =some u→W.cell? ⟨g,i.toNat*d.sz+j,none⟩=some u)∧∀j,W.frozen? ⟨g,i.toNat*d.sz+j,none⟩=false:=by
 obtain⟨hn,Jh,hC⟩:=aW h;obtain⟨_,inner,ho,hr⟩:=h;have OL:i.toNat<xs.length:=by omega
 have Zc:i.toNat*d.sz+d.sz≤inner.length:=by rw[hr.1,←Nat.succ_mul];exact Nat.mul_le_mul_right _ OL
 have hM:=hr.2 i.toNat _ (List.getElem?_eq_getElem OL);refine⟨(inner.drop (i.toNat*d.sz)).take d.sz,by rw[List.length_take,List.length_drop];omega,?_,fun j u hu=>?_,fun j=>?_⟩
 ·rw[List.getD_eq_getElem?_getD,List.getElem?_eq_getElem OL];exact d.gi (fun k hk=>⟨hk.1,fun he=>hk.2 (by rw[he];simp [Value.ownBlock])⟩) hM
 ·rw[List.getElem?_take] at hu;split at hu
  ·rw[List.getElem?_drop] at hu;have:=ho.cells (g:=g) (by simp [Value.ownBlock]) _ u hu
   rwa [add_plain] at this
  ·cases hu
 ·obtain⟨cells,hc⟩:=qM ho g (by simp [Value.ownBlock]);exact bn hc _
theorem Wx(h:d.R e W base ok (.slice (some ⟨g,0,none⟩) n cap) xs)(i:Int)(h0:0≤i)(h1:i<n){c oU:List Value}{j:Nat}(oK:c.length=d.sz)(lZ:∀j u,c[j]? =some u→W.cell? ⟨g,i.toNat*d.sz+j,none⟩=some u)
 (hj:j+oU.length≤d.sz) {x':α} (hM:d.M W base kc x' (c.take j++oU++c.drop (j+oU.length))) (oQ:∀k,kc k→ok k∧k≠g):
 d.R e (W.setCells g (i.toNat*d.sz+j) oU) base ok (.slice (some ⟨g,0,none⟩) n cap) (xs.set i.toNat x')∧W.grownBy (W.setCells g (i.toNat*d.sz+j) oU) (some g):=by
 obtain⟨hn,Jh,_⟩:=aW h;obtain⟨jo,inner,ho,hr⟩:=h;have OL:i.toNat<xs.length:=by omega
 have Zc:i.toNat*d.sz+d.sz≤inner.length:=by rw[hr.1,←Nat.succ_mul];exact Nat.mul_le_mul_right _ OL
 have Tt:inner.length=n*d.sz:=by rw[hr.1,hn]
 obtain⟨ho1,xt⟩:=ho;rcases xt with⟨hv,_⟩|⟨g',MX,cur,hv,hb,hh,asH,Zd,hcs,ht⟩
 ·cases hv
 injection hv with ha _ hc
 injection ha with ha
 injection ha with hg
 subst hg;subst hc
 have Ds:i.toNat*d.sz+j+oU.length≤cur.size:=by
  have:n*d.sz≤cap*d.sz:=Nat.mul_le_mul_right _ Jh;omega
 obtain⟨Dr,h3,h4,h5⟩:=rW oU (i.toNat*d.sz+j) W cur hh Ds;obtain⟨s1,s2,s3,s4⟩:=qD g oU (i.toNat*d.sz+j) W;have Ze:∀k,k≠g→(W.setCells g (i.toNat*d.sz+j) oU).heap[k]? =W.heap[k]? :=fun k hk=>rV oU _ k hk
 have akG:∀q,q<d.sz→c[q]? =inner[i.toNat*d.sz+q]? :=by
  intro q hq;have hq':q<c.length:=by omega
  have h6:=lZ q _ (List.getElem?_eq_getElem hq');rw[cell_of_row W g _ cur e (0,0) hh] at h6;rw[List.getElem?_eq_getElem hq',←h6,←ht,List.getElem?_take,if_pos (by rw[←hn];omega),Array.getElem?_toList]
 refine⟨⟨jo,inner.take (i.toNat*d.sz+j)++oU++inner.drop (i.toNat*d.sz+j+oU.length),⟨?_,.inr ⟨g,cap,Dr,by rw[List.length_set,hn],hb,h3,by rw[List.length_set,←hn];exact Jh,Zd,by rw[h4,hcs],?_⟩⟩,?_⟩,
  ⟨s1,s2,s3,by rw[s4];exact Nat.le_refl _,fun k _ hk=>Ze k (fun he=>hk (by rw[he]))⟩⟩
 ·rw[List.length_set];simp only[List.length_append,List.length_take,List.length_drop];rw[hr.1] at Zc⊢;omega
 ·rw[List.length_set,←hn];apply List.ext_getElem?;intro q;rw[List.getElem?_take,h5];rw[vw cur.toList oU (i.toNat*d.sz+j) (by rw[Array.length_toList];omega) q,vw inner oU (i.toNat*d.sz+j) (by omega) q]
  have ui:∀q,q<n*d.sz→cur.toList[q]? =inner[q]? :=by
   intro q hq;rw[←ht,List.getElem?_take,if_pos (by rw[←hn];exact hq)]
  by_cases hq:q<n*d.sz
  ·rw[if_pos hq,ui q hq]
  ·rw[if_neg hq,if_neg (by omega),if_neg (by omega),List.getElem?_eq_none (by omega)]
 ·refine⟨?_,fun m p hm=>?_⟩
  ·rw[List.length_set];simp only[List.length_append,List.length_take,List.length_drop];rw[hr.1] at Zc⊢;omega
  ·have hml:m<xs.length:=by
    have:=(List.getElem?_eq_some_iff.1 hm).1
    rwa [List.length_set] at this
   have ao7:m*d.sz+d.sz≤inner.length:=by rw[hr.1,←Nat.succ_mul];exact Nat.mul_le_mul_right _ hml
   have Lh:some g=(Value.slice (some ⟨g,0,none⟩) n cap).ownBlock:=by simp [Value.ownBlock]
   by_cases hmi:m=i.toNat
   ·subst hmi;rw[List.getElem?_set_self (by omega)] at hm;injection hm with hm
    subst hm
    have Jj:((inner.take (i.toNat*d.sz+j)++oU++inner.drop (i.toNat*d.sz+j+oU.length)).drop (i.toNat*d.sz)).take d.sz=c.take j++oU++c.drop (j+oU.length):=by
     apply List.ext_getElem?;intro q;rw[List.getElem?_take,List.getElem?_drop,vw inner oU _ (by omega),vw c oU j (by omega) q]
     by_cases hq:q<d.sz
     ·rw[if_pos hq,akG q hq]
      by_cases Wy:q<j
      ·rw[if_pos (by omega),if_pos Wy]
      ·rw[if_neg (by omega),if_neg Wy]
       by_cases Tu:q<j+oU.length
       ·rw[if_pos (by omega),if_pos Tu]
        congr 1
        omega
       ·rw[if_neg (by omega),if_neg Tu]
     ·rw[if_neg hq,if_neg (by omega),if_neg (by omega),List.getElem?_eq_none (by omega)]
    rw[Jj];refine d.gi (fun k hk=>?_) (d.jz (w1:=W.setCells g (i.toNat*d.sz+j) oU) (fun k hk=>Ze k (oQ k hk).2) hM);exact⟨(oQ k hk).1,fun he=>(oQ k hk).2 (by rw[←Lh] at he;injection he)⟩
   ·rw[List.getElem?_set_ne (by omega)] at hm;have hold:=hr.2 m p hm
    have Jj:((inner.take (i.toNat*d.sz+j)++oU++inner.drop (i.toNat*d.sz+j+oU.length)).drop (m*d.sz)).take d.sz=(inner.drop (m*d.sz)).take d.sz:=by
     apply List.ext_getElem?;intro q;rw[List.getElem?_take,List.getElem?_take,List.getElem?_drop,List.getElem?_drop,vw inner oU _ (by omega)]
     by_cases hq:q<d.sz
     ·rw[if_pos hq,if_pos hq];rcases Nat.lt_or_gt_of_ne hmi with cX|SI
      ·have:m*d.sz+d.sz≤i.toNat*d.sz:=by rw[←Nat.succ_mul];exact Nat.mul_le_mul_right _ cX
       rw[if_pos (by omega)]
      ·have:i.toNat*d.sz+d.sz≤m*d.sz:=by rw[←Nat.succ_mul];exact Nat.mul_le_mul_right _ SI
       rw[if_neg (by omega),if_neg (by omega)]
     ·rw[if_neg hq,if_neg hq]
    rw[Jj];refine d.jz (fun k hk=>Ze k (fun he=>hk.2 (by rw[he];exact Lh))) hold
end
end Kd
namespace Kd
theorem yq{α:Type}{R:α→List Value→Prop}{size:Nat}{ps qs:List α}{cs ds:List Value}(h:fg R size ps cs)(h':fg R size qs ds):fg R size (ps++qs) (cs++ds):=by
 refine⟨by rw[List.length_append,List.length_append,h.1,h'.1,Nat.add_mul],fun j p hj=>?_⟩;rcases Nat.lt_or_ge j ps.length with cX|F9
 ·rw[List.getElem?_append_left cX] at hj;have hle:j*size+size≤cs.length:=by rw[h.1,←Nat.succ_mul];exact Nat.mul_le_mul_right _ cX
  rw[List.drop_append_of_le_length (by omega),List.take_append_of_le_length (by rw[List.length_drop];omega)];exact h.2 j p hj
 ·rw[List.getElem?_append_right F9] at hj;have h2:=h'.2 (j-ps.length) p hj;have hle:ps.length*size≤j*size:=Nat.mul_le_mul_right _ F9;rw[List.drop_append,List.drop_eq_nil_of_le (by rw[h.1];exact hle),List.nil_append,h.1,←Nat.sub_mul];exact h2
section
variable {P:Program}{ops:Array Oper}{rest:List Oper}{o:Oper}{a:Act}{Q:Exit→Act→World→Prop}{α:Type}
theorem ep(d:Kd α){Rr:α→List Value→Prop}{w0 W:World}(base:Nat)(um:o.guard=none)(s x:Operand)(t e:TypeId)(z:Value)(bytes:Nat)
 (ho:o.op= .call {callee:= .builtin .append,args:= #[s,x],argTypes:= #[t,t]})
 (ht:P.underlying t=some (.slice e)) (kE:(P.info? e).map (fun i=>(i.zero,i.size,i.bytes))=some (some z,d.sz,bytes)) (hz:z.cells.size=d.sz) (qC:0<d.sz) (uh:0<bytes)
 (v:Value) (xs ys:List α) (A:Option Addr) (m c:Nat) (ok kc:Nat→Prop) (hs:a.eval s=v) (hx:a.eval x= .slice A m c)
 (HO:d.R e W base ok v xs) (HR:dD Rr d.sz W A m ys) (hKM:∀x cs,Rr x cs→d.M W base kc x cs) (oQ:∀k,kc k→ok k∧some k≠v.ownBlock) (gj:∀k,W.heap.size≤k→ok k)
 (HB:Below base w0 W) (eQ:base≤W.heap.size) (hl:(xs.length+m)*bytes≤140737488355328)
 (h:∀v1 w1,d.R e w1 base ok v1 (xs++ys)→Below base w0 w1→W.grownBy w1 v.ownBlock→(v1.ownBlock=v.ownBlock∨∃b,v1.ownBlock=some b∧W.heap.size≤b)→wpList P ops Q rest (a.put o.dst v1) w1):
 wpList P ops Q (o::rest) a W:=by
 obtain⟨i0,hi,zZ⟩:=Option.map_eq_some_iff.1 kE;simp only[Prod.mk.injEq] at zZ;obtain⟨yY,yZ,vn⟩:=zZ;have hm:ys.length=m:=HR.1;have hlen:xs.length+m≤140737488355328:=Nat.le_trans (Nat.le_mul_of_pos_right _ uh) hl;obtain⟨jo,inner,mB,hr⟩:=HO
 have iI:∃v1 w1,(Builtin.append_ #[t,t] o.type #[v,.slice A m c]).run P W= .ok v1 w1∧d.R e w1 base ok v1 (xs++ys)∧W.grownBy w1 v.ownBlock∧(v1.ownBlock=v.ownBlock∨∃b,v1.ownBlock=some b∧W.heap.size≤b):=by
  rcases A with _|ad
  ·have h0:m=0:=by
    rcases Nat.eq_zero_or_pos m with h0|h0
    ·exact h0
    ·obtain⟨ad,h,_⟩:=HR.2.2 h0;cases h
   subst h0;obtain rfl:ys=[]:=List.eq_nil_of_length_eq_zero hm;refine⟨v,W,?_,by rw[List.append_nil];exact⟨jo,inner,mB,hr⟩,World.grownBy.refl W _,.inl rfl⟩;rcases mB.2 with⟨rfl,hn⟩|⟨g,cap,cur,rfl,_,_,Jh,_⟩
   ·simp [Builtin.append_,run_underlying ht,sizeOf,typeInfo,hi,Builtin.lenOf,Builtin.firstCells]
   ·simp [Builtin.append_,run_underlying ht,sizeOf,typeInfo,hi,Builtin.lenOf,Builtin.firstCells,Jh,storeCells]
  ·obtain⟨news,hnr,Jh⟩:=dD.Ji HR;have Tv:fg (d.M W base kc) d.sz ys news:=hnr.rU (fun p c hp=>hKM p c hp)
   have Zf:∀u∈news,u.oneCell'=true:=by
    intro u hu;obtain⟨q,hq,rfl⟩:=List.mem_iff_getElem.1 hu
    have hql:q/d.sz<ys.length:=by
     rw[Nat.div_lt_iff_lt_mul qC];rw[←Tv.1];exact hq
    have hc:=Tv.2 (q/d.sz) _ (List.getElem?_eq_getElem hql);refine d.lM (d.gh hc) _ ?_;rw[List.mem_iff_getElem?];refine⟨q%d.sz,?_⟩;rw[List.getElem?_take,if_pos (Nat.mod_lt _ qC),List.getElem?_drop,Nat.mul_comm,Nat.div_add_mod,List.getElem?_eq_getElem hq]
   obtain⟨v1,w1,iI,h2,hg,_,dH⟩:=run_append_own_at (P:=P) W base t o.type e i0 z d.sz bytes ht hi yY yZ vn hz qC v xs.length inner mB ad m c news (by rw[Tv.1,hm]) Jh Zf (by simp only[maxLen];omega) hl eQ
   have Jk:v1.ownBlock=v.ownBlock∨∃b,v1.ownBlock=some b∧W.heap.size≤b:=by
    rcases dH with dH|dH
    ·exact .inl dH
    ·exact .inr ⟨_,dH,Nat.le_refl _⟩
   have mA:∀k,some k≠v.ownBlock→k<W.heap.size→some k≠v1.ownBlock:=by
    intro k hk cX;rcases Jk with dH|⟨b,hb,hle⟩
    ·rw[dH];exact hk
    ·rw[hb];intro he;injection he with he
     omega
   have step:∀{q:α}{c:List Value}{o:Nat→Prop},d.M W base o q c→(∀k,o k→ok k∧some k≠v.ownBlock)→d.M w1 base (fun k=>ok k∧some k≠v1.ownBlock) q c:=by
    intro q c o hq ho;have h1:=d.jz (w1:=w1) (fun k hk=>hg.block k hk.2.2.1 (ho k hk.1).2) (d.ia hq);exact d.gi (fun k hk=>⟨(ho k hk.1).1,mA k (ho k hk.1).2 hk.2.2.1⟩) h1
   refine⟨v1,w1,iI,⟨fun k hk=>?_,inner++news,by rw[List.length_append,hm];exact h2,yq (hr.rU (fun _ _ hq=>step hq (fun _ hk=>hk))) (Tv.rU (fun _ _ hq=>step hq oQ))⟩,hg,Jk⟩;rcases Jk with dH|⟨b,hb,hle⟩
   ·exact jo k (dH▸hk)
   ·rw[hb] at hk;injection hk with hk
    exact gj k (by omega)
 obtain⟨v1,w1,sM,h1,hg,dH⟩:=iI;refine wpList_plain um fun K hK=>?_;unfold Oper.wp execOp;simp only[ho,resolve,invoke,builtin,Sem.run_bind,Sem.run_pure,Result.andThen_ok,List.map_toArray,List.map_cons,List.map_nil,hs,hx,sM];exact hK _ _ (h v1 w1 h1 (HB.grown hg eQ (nE mB)) hg dH)
end
end Kd
theorem add_add(a:Addr)(i j:Nat):(a.add i).add j=a.add (i+j):=by
 unfold Addr.add
 by_cases h1:i=0<;>by_cases h2:j=0<;>simp [h1,h2,Nat.add_assoc]
namespace Kd
section
variable {α:Type}{k:Kd α}{w:World}{A:Option Addr}{xs:List α}{m c:Nat}
theorem xu(h:k.C w A xs.length xs)(hm:m≤xs.length):k.C w A (xs.take m).length (xs.take m):=by
 have hl:(xs.take m).length=m:=by rw[List.length_take];omega
 refine⟨rfl,by rw[hl];have:=h.2.1;omega,fun hp=>?_⟩;obtain⟨ad,e,hc⟩:=h.2.2 (by omega);refine⟨ad,e,fun j p hj=>hc j p ?_⟩;rw[List.getElem?_take] at hj;split at hj
 ·exact hj
 ·cases hj
theorem Jl(h:k.C w A xs.length xs)(hm:m≤xs.length)(hc:xs.length≤c):k.C w (if c=m then A else A.map (·.add (m*k.sz))) (xs.drop m).length (xs.drop m):=by
 have hl:(xs.drop m).length=xs.length-m:=List.length_drop;refine⟨rfl,by rw[hl];have:=h.2.1;omega,fun hp=>?_⟩;rw[hl] at hp;obtain⟨ad,rfl,iJ⟩:=h.2.2 (by omega);rw[if_neg (by omega)];refine⟨ad.add (m*k.sz),rfl,fun j p hj=>?_⟩;rw[List.getElem?_drop] at hj;obtain⟨cs,h1,h2,h3⟩:=iJ (m+j) p hj;refine⟨cs,h1,h2,fun i u hu=>?_⟩;rw[add_add,show m*k.sz+(j*k.sz+i)=(m+j)*k.sz+i by rw[Nat.add_mul];omega];exact h3 i u hu
theorem adg{lo hi:Nat}(h:k.C w A xs.length xs)(h1:lo≤hi)(h2:hi≤xs.length)(hc:xs.length≤c):k.C w (if c=lo then A else A.map (·.add (lo*k.sz))) ((xs.take hi).drop lo).length ((xs.take hi).drop lo):=by
 have hl:(xs.take hi).length=hi:=by rw[List.length_take];omega
 exact Jl (xu h h2) (by omega) (by omega)
end
end Kd
section
variable {P:Program}
theorem Tw(t e:TypeId)(kl kh:IntKind){i:TypeInfo}(ht:P.underlying t=some (.slice e))(hi:P.info? e=some i)(size:Nat)(oL:i.size=size)(A:Option Addr)(n c:Nat)(lo Zg:Int)(h0:0≤lo)(h1:lo≤Zg)(h2:Zg≤n)(hc:n≤c):
 ∀W:World,(Instr.slice t (.slice A n c) (some (.int kl lo)) (some (.int kh Zg)) none).run P W= .ok (.slice (if c=lo.toNat then A else A.map (·.add (lo.toNat*size))) (Zg.toNat-lo.toNat) (c-lo.toNat)) W:=by
 intro W;have Lf:P.elem t=e:=by simp [Program.elem,ht]
 have hu:P.underlying t=some (.slice (P.elem t)):=by rw[Lf];exact ht
 rw[run_slice_lh W t A n c hu kl kh lo Zg h0 h1 (by omega),Lf];simp [sizeOf,typeInfo,hi,oL,sliced,Result.andThen]
end
theorem y9{P:Program}{w:World}{src dst e:TypeId}{A:Option Addr}{n c:Nat}{xs:List Int}(hs:P.underlying src=some (.slice e))(he:P.underlying e=some (.int .u8))(hd:P.underlying dst=some .string)
 (h:jN w .u8 A n xs):(convert src dst (.slice A n c)).run P w= .ok (.string (strOfNums xs)) w:=by
 have hn:xs.length=n:=h.1;rcases A with _|ad
 ·have h0:n=0:=by
   rcases Nat.eq_zero_or_pos n with h0|h0
   ·exact h0
   ·obtain⟨ad,h',_⟩:=h.2.2 h0;cases h'
  subst h0;obtain rfl:xs=[]:=List.eq_nil_of_length_eq_zero hn;exact run_convert_bytes_nil w src e hs he 0 c dst hd
 ·have hl:(loadCells ad n).run P w= .ok (xs.map (Value.int .u8)).toArray w:=by
   have:=run_loadCells_list (P:=P) w ad (xs.map (Value.int .u8)) (fun j v hj=>by
    have Dn:j<xs.length:=by
     rcases Nat.lt_or_ge j xs.length with h'|h'
     ·exact h'
     ·rw[List.getElem?_eq_none (by rw[List.length_map];exact h')] at hj;cases hj
    obtain⟨ad',he',hc⟩:=h.2.2 (by omega);injection he' with he'
    subst he';rw[hc j (by omega)];rw[List.getElem?_map,List.getElem?_eq_getElem Dn] at hj;simp at hj;subst hj;simp [List.getD_eq_getElem?_getD,List.getElem?_eq_getElem Dn])
   simpa [hn] using this
  rw[run_convert_bytes_string w src dst e _ n c hs he hd,run_bytesToString w ad n c xs hl,foldl_push_bytes];simp [strOfNums,ByteArray.empty,ByteArray.emptyWithCapacity];rfl
theorem Kd.qN{P:Program}{w:World}{src dst e:TypeId}{A:Option Addr}{n c:Nat}{xs:List Int}(hs:P.underlying src=some (.slice e))(he:P.underlying e=some (.int .u8))(hd:P.underlying dst=some .string)
 (h:(Kd.int .u8).C w A n xs):(convert src dst (.slice A n c)).run P w= .ok (.string (strOfNums xs)) w:=
 y9 hs he hd (Kd.oR (enc:=Value.int .u8) (d:=(0:Int)) (h1:=fun _=>rfl) h)
theorem aq{w W:World}(h:Below w.heap.size w W):w.heap.size≤W.heap.size:=h.size
theorem bR{w W w2:World}(h:Below w.heap.size w W)(k:Below W.heap.size W w2):Below w.heap.size w w2:=Jf h h.size k
theorem jN.nil(W:World)(k:IntKind):jN W k none ([]:List Int).length []:=⟨rfl,by simp,fun h=>absurd h (Nat.lt_irrefl 0)⟩
theorem jN.ofRow{k:IntKind}{w:World}{a:Option Addr}{len cap:Nat}{zs:List Int}(h:(a=none∧len=0∧cap=0∧zs=[])∨∃x,a=some x∧len≤cap∧cap≤maxLen∧zs.length=cap∧(∀i,i<zs.length→w.cell? (x.add i)=some (.int k (zs.getD i 0)))∧∀n∈zs,(Lit.int k n).wf=true):
 ∃l:List Int,len=l.length∧jN w k a l.length l∧l.length≤maxLen∧∀x∈l,(Lit.int k x).wf=true:=by
 rcases h with⟨rfl,rfl,rfl,rfl⟩|⟨x,rfl,hl,hm,hz,hc,hw⟩
 ·exact⟨[],rfl,jN.nil _ _,Nat.zero_le _,fun x hx=>by simp at hx⟩
 ·have e:(zs.take len).length=len:=by simp;omega
  have hm':len≤maxLen:=Nat.le_trans hl hm;refine⟨zs.take len,e.symm,⟨rfl,by rw[e];simpa [maxLen] using hm',fun _=>⟨x,rfl,fun j hj=>?_⟩⟩,by rw[e];exact hm',fun y hy=>hw y (List.mem_of_mem_take hy)⟩;rw[e] at hj;rw[hc j (by omega)];simp [List.getD,List.getElem?_take,hj]
theorem aH{w W:World}{g j:Nat}{v:Value}(h:Below w.heap.size w W)(hg:w.heap.size≤g):Below w.heap.size w (W.setCell ⟨g,j,none⟩ v):=h.setCell hg _
theorem av(a:Addr)(i:Nat):(a.add i).block=a.block:=by unfold Addr.add;split<;>rfl
theorem cell_far{W:World}{p a:Addr}(h:a.block≠p.block)(u:Value):(W.setCell p u).cell? a=W.cell? a:=by
 have:=Below.heap_setCell W p u a.block h;simp [World.cell?,this]
theorem aQ{w:World}{g:Nat}{t:TypeId}{cs cs':Array Value}(h:w.heap[g]? =some (.cells cs t (0,0)))(i:Nat)(u:Value)(e:cs.setIfInBounds i u=cs'):(w.setCell ⟨g,i,none⟩ u).heap[g]? =some (.cells cs' t (0,0)):=e▸kf h i u
theorem eZ{base:Nat}{w W:World}(h:Below base w W):Below base w W.drew:=h.drew
namespace Kd
section
variable {α β:Type}{d:Kd α}{d':Kd β}{e e' base base' n:Nat}{ok ok':Nat→Prop}{w W w1 W1:World}{v u:Value}{xs:List α}{ys:List β}{A:Option Addr}{c:Nat}
theorem qO(h:d.R e w base ok u xs)(hv:d'.R e' w base' ok' v ys)(ht:∀q,q∈e::d.E→q≠e'):d.R e w base (fun k=>ok k∧some k≠v.ownBlock) u xs:=by
 refine bJ (eH h) (fun k hk=>⟨hk.1,fun he=>?_⟩);obtain⟨q,hq,cells,hc⟩:=hk.2.2.2;obtain⟨inner,ho⟩:=vu hv;obtain⟨Dp,I'⟩:=qM ho k he.symm;rw[hc] at I';injection I' with h1
 injection h1 with _ h2
 exact ht q hq h2
end
end Kd
namespace Kd
section
variable {α:Type}{d:Kd α}{e base g:Nat}{ok:Nat→Prop}{w w1:World}{v:Value}{xs:List α}{o:Obj}
theorem Pb(h:d.R e w base ok v xs)(a:Nat)(ha:w.heap.size≤a):d.R e w base (fun k=>ok k∧k≠a) v xs:=bJ (eH h) (fun k hk=>⟨hk.1,by have:=hk.2.2.1;omega⟩)
theorem Zh(h:d.R e w1 w.heap.size ok v xs)(hb:w.heap[g]? =some o):d.R e w1 w.heap.size (fun k=>ok k∧k≠g) v xs:=bJ (eH h) (fun k hk=>⟨hk.1,by have:=aN hb;have:=hk.2.1;omega⟩)
theorem Zi(hb:w.heap[g]? =some o):∀k,w.heap.size≤k→k≠g:=fun k hk=>by have:=aN hb;omega
end
end Kd
section
variable {P:Program}{ops:Array Oper}{rest:List Oper}{o:Oper}{a:Act}{Q:Exit→Act→World→Prop}
theorem xw{W:World}(um:o.guard=none){N:Tmp}(_hd:o.dst=some N){cs:Array Value}{t:TypeId}
 (iI:(execOp a.eval o).run P W= .ok (.value (.pointer (some ⟨W.heap.size,0,none⟩))) (W.alloc (.cells cs t (0,0))))
 (h:∀g,g=W.heap.size→∀w1,w1.heap[g]? =some (.cells cs t (0,0))→Below W.heap.size W w1→wpList P ops Q rest (a.put o.dst (.pointer (some ⟨g,0,none⟩))) w1):wpList P ops Q (o::rest) a W:=
 Kd.Cy um iI (h _ rfl _ (aI W _) (ab (Below.refl _ _) _))
end
section
variable {P:Program}{ops:Array Oper}{rest:List Oper}{o:Oper}{a:Act}{Q:Exit→Act→World→Prop}
theorem F'{W w1:World}(um:o.guard=none){t:TypeId}{p:Tmp}{v:Operand}(_ho:o.op= .store t (.tmp p) v)(hN:o.dst=none)
 (iI:(execOp a.eval o).run P W= .ok .skip w1) (h:∀w',w'=w1→wpList P ops Q rest a w'):wpList P ops Q (o::rest) a W:=by
 refine wpList_plain um fun K hK=>?_;unfold Oper.wp;rw[iI];show K (a.put o.dst undef) w1;rw[hN];exact hK _ _ (h _ rfl)
end
section
variable {P:Program}{ops:Array Oper}{rest:List Oper}{o:Oper}{a:Act}{Q:Exit→Act→World→Prop}{W:World}
theorem ma{N:Tmp}(_hN:o.dst=some N)(h:wpList P ops Q (o::rest) a W):wpList P ops Q (o::rest) a W:=h
theorem Jm{t:TypeId}{p:Tmp}{v:Operand}(_ho:o.op= .store t (.tmp p) v)(h:wpList P ops Q (o::rest) a W):wpList P ops Q (o::rest) a W:=h
end
section
variable {P:Program}{ops:Array Oper}{o:Oper}{a:Act}{Q:Exit→Act→World→Prop}{Kc:Act→World→Prop}
theorem Jn{W w1:World}{v:Value}(hw:Region.wanted o (yielded ops a.tmps)=true)(iI:(execOp a.eval o).run P W= .ok (.value v) w1)(h:Kc (a.put o.dst v) w1):if Region.wanted o (yielded ops a.tmps)=true then Oper.wp P o a W Kc Q else Kc (a.put o.dst undef) W:=by
 rw[if_pos hw];unfold Oper.wp;rw[iI];exact h
namespace Kd
variable {α:Type}
theorem Al(d:Kd α){w0 W:World}(base e:Nat)(hw:Region.wanted o (yielded ops a.tmps)=true){N:Tmp}(_hd:o.dst=some N){xs:List α}{inner:List Value}{ok kc:Nat→Prop}
 (iI:(execOp a.eval o).run P W= .ok (.value (.slice (some ⟨W.heap.size,0,none⟩) xs.length xs.length)) (W.alloc (.cells inner.toArray e)))
 (F6:fg (d.M W base kc) d.sz xs inner) (jo:∀k,kc k→ok k) (gj:ok W.heap.size) (HB:Below base w0 W) (eQ:base≤W.heap.size) (hm:xs.length≤9223372036854775807)
 (h:∀v1 w1,d.R e w1 base ok v1 xs→Below base w0 w1→W.grownBy w1 none→(∃b,v1.ownBlock=some b∧W.heap.size≤b)→Kc (a.put o.dst v1) w1):if Region.wanted o (yielded ops a.tmps)=true then Oper.wp P o a W Kc Q else Kc (a.put o.dst undef) W:=by
 refine Jn hw iI (h _ _ ⟨fun k hk=>?_,inner,?_,?_⟩ (HB.alloc eQ _) (World.grownBy_alloc W _ none) ⟨W.heap.size,by simp [Value.ownBlock],Nat.le_refl _⟩)
 ·have:W.heap.size=k:=by simpa [Value.ownBlock] using hk
  subst this;exact gj
 ·have h2:=World.ownsRow_lit (base:=base) (e:=e) (size:=d.sz) W inner.toArray xs.length eQ (by simpa [maxLen] using hm) (by simpa using F6.1);simpa using h2
 ·refine F6.rU (fun p c hp=>d.gi (fun k hk=>⟨jo k hk.1,fun he=>?_⟩) (Lg (d.ia hp) (ab (Below.refl _ _) _)));have h3:k=W.heap.size:=by simpa [Value.ownBlock] using he
  have:=hk.2.2.1;omega
theorem Ga(d:Kd α){w0 W:World}(base e:Nat)(hw:Region.wanted o (yielded ops a.tmps)=true){N:Tmp}(hd:o.dst=some N)(t:TypeId)(x y:Operand)(ho:o.op= .makeSlice t x y)(n:Int)(hx:a.eval x= .int .i64 n)(hy:a.eval y= .int .i64 n)
 (ht:P.underlying t=some (.slice e)) (z:Value) (bytes:Nat) (kE:(P.info? e).map (fun i=>(i.zero,i.size,i.bytes))=some (some z,d.sz,bytes)) (hz:z.cells.size=d.sz) (qC:0<d.sz) (uh:0<bytes)
 (z0:α) {ok kc:Nat→Prop} (hzero:d.M W base kc z0 z.cells.toList) (jo:∀k,kc k→ok k) (gj:ok W.heap.size) (h0:0≤n) (hl:n.toNat*bytes≤281474976710656) (HB:Below base w0 W) (eQ:base≤W.heap.size)
 (h:∀v1 w1,d.R e w1 base ok v1 (List.replicate n.toNat z0)→Below base w0 w1→W.grownBy w1 none→(∃b,v1.ownBlock=some b∧W.heap.size≤b)→Kc (a.put o.dst v1) w1):if Region.wanted o (yielded ops a.tmps)=true then Oper.wp P o a W Kc Q else Kc (a.put o.dst undef) W:=by
 obtain⟨m,rfl⟩:=Int.eq_ofNat_of_zero_le h0;simp only[Int.toNat_natCast] at hl h;obtain⟨i0,hi,zZ⟩:=Option.map_eq_some_iff.1 kE;simp only[Prod.mk.injEq] at zZ;obtain⟨yY,yZ,vn⟩:=zZ;have hm:m≤281474976710656:=Nat.le_trans (Nat.le_mul_of_pos_right _ uh) hl
 have hr:=run_make (P:=P) W t e i0 z ht hi yY .i64 .i64 (m:Int) (m:Int) (by omega) (by omega)
  (by
   have h3:((i0.bytes*m:Nat):Int)≤281474976710656:=by rw[vn,Nat.mul_comm];omega
   rwa [Int.natCast_mul] at h3) (by omega)
 simp only[Int.toNat_natCast] at hr;rw[yZ] at hr;refine Al d base e hw hd (xs:=List.replicate m z0) (inner:=(madeCells z.cells (m*d.sz)).toList) (kc:=kc) (ok:=ok) ?_ (Cz hz qC hzero m) jo gj HB eQ (by simp;omega) h;simp [execOp,ho,hx,hy,hr]
theorem br(d:Kd α){Rr:α→List Value→Prop}{w0 W:World}(base:Nat)(hw:Region.wanted o (yielded ops a.tmps)=true)(s x:Operand)(t e:TypeId)(z:Value)(bytes:Nat)
 (ho:o.op= .call {callee:= .builtin .append,args:= #[s,x],argTypes:= #[t,t]})
 (ht:P.underlying t=some (.slice e)) (kE:(P.info? e).map (fun i=>(i.zero,i.size,i.bytes))=some (some z,d.sz,bytes)) (hz:z.cells.size=d.sz) (qC:0<d.sz) (uh:0<bytes)
 (v:Value) (xs ys:List α) (A:Option Addr) (m c:Nat) (ok kc:Nat→Prop) (hs:a.eval s=v) (hx:a.eval x= .slice A m c)
 (HO:d.R e W base ok v xs) (HR:dD Rr d.sz W A m ys) (hKM:∀x cs,Rr x cs→d.M W base kc x cs) (oQ:∀k,kc k→ok k∧some k≠v.ownBlock) (gj:∀k,W.heap.size≤k→ok k)
 (HB:Below base w0 W) (eQ:base≤W.heap.size) (hl:(xs.length+m)*bytes≤140737488355328)
 (h:∀v1 w1,d.R e w1 base ok v1 (xs++ys)→Below base w0 w1→W.grownBy w1 v.ownBlock→(v1.ownBlock=v.ownBlock∨∃b,v1.ownBlock=some b∧W.heap.size≤b)→Kc (a.put o.dst v1) w1):
 if Region.wanted o (yielded ops a.tmps)=true then Oper.wp P o a W Kc Q else Kc (a.put o.dst undef) W:=by
 obtain⟨i0,hi,zZ⟩:=Option.map_eq_some_iff.1 kE;simp only[Prod.mk.injEq] at zZ;obtain⟨yY,yZ,vn⟩:=zZ;have hm:ys.length=m:=HR.1;have hlen:xs.length+m≤140737488355328:=Nat.le_trans (Nat.le_mul_of_pos_right _ uh) hl;obtain⟨jo,inner,mB,hr⟩:=HO
 have iI:∃v1 w1,(Builtin.append_ #[t,t] o.type #[v,.slice A m c]).run P W= .ok v1 w1∧d.R e w1 base ok v1 (xs++ys)∧W.grownBy w1 v.ownBlock∧(v1.ownBlock=v.ownBlock∨∃b,v1.ownBlock=some b∧W.heap.size≤b):=by
  rcases A with _|ad
  ·have h0:m=0:=by
    rcases Nat.eq_zero_or_pos m with h0|h0
    ·exact h0
    ·obtain⟨ad,h,_⟩:=HR.2.2 h0;cases h
   subst h0;obtain rfl:ys=[]:=List.eq_nil_of_length_eq_zero hm;refine⟨v,W,?_,by rw[List.append_nil];exact⟨jo,inner,mB,hr⟩,World.grownBy.refl W _,.inl rfl⟩;rcases mB.2 with⟨rfl,hn⟩|⟨g,cap,cur,rfl,_,_,Jh,_⟩
   ·simp [Builtin.append_,run_underlying ht,sizeOf,typeInfo,hi,Builtin.lenOf,Builtin.firstCells]
   ·simp [Builtin.append_,run_underlying ht,sizeOf,typeInfo,hi,Builtin.lenOf,Builtin.firstCells,Jh,storeCells]
  ·obtain⟨news,hnr,Jh⟩:=dD.Ji HR;have Tv:fg (d.M W base kc) d.sz ys news:=hnr.rU (fun p c hp=>hKM p c hp)
   have Zf:∀u∈news,u.oneCell'=true:=by
    intro u hu;obtain⟨q,hq,rfl⟩:=List.mem_iff_getElem.1 hu
    have hql:q/d.sz<ys.length:=by
     rw[Nat.div_lt_iff_lt_mul qC];rw[←Tv.1];exact hq
    have hc:=Tv.2 (q/d.sz) _ (List.getElem?_eq_getElem hql);refine d.lM (d.gh hc) _ ?_;rw[List.mem_iff_getElem?];refine⟨q%d.sz,?_⟩;rw[List.getElem?_take,if_pos (Nat.mod_lt _ qC),List.getElem?_drop,Nat.mul_comm,Nat.div_add_mod,List.getElem?_eq_getElem hq]
   obtain⟨v1,w1,iI,h2,hg,_,dH⟩:=run_append_own_at (P:=P) W base t o.type e i0 z d.sz bytes ht hi yY yZ vn hz qC v xs.length inner mB ad m c news (by rw[Tv.1,hm]) Jh Zf (by simp only[maxLen];omega) hl eQ
   have Jk:v1.ownBlock=v.ownBlock∨∃b,v1.ownBlock=some b∧W.heap.size≤b:=by
    rcases dH with dH|dH
    ·exact .inl dH
    ·exact .inr ⟨_,dH,Nat.le_refl _⟩
   have mA:∀k,some k≠v.ownBlock→k<W.heap.size→some k≠v1.ownBlock:=by
    intro k hk cX;rcases Jk with dH|⟨b,hb,hle⟩
    ·rw[dH];exact hk
    ·rw[hb];intro he;injection he with he
     omega
   have step:∀{q:α}{c:List Value}{o:Nat→Prop},d.M W base o q c→(∀k,o k→ok k∧some k≠v.ownBlock)→d.M w1 base (fun k=>ok k∧some k≠v1.ownBlock) q c:=by
    intro q c o hq ho;have h1:=d.jz (w1:=w1) (fun k hk=>hg.block k hk.2.2.1 (ho k hk.1).2) (d.ia hq);exact d.gi (fun k hk=>⟨(ho k hk.1).1,mA k (ho k hk.1).2 hk.2.2.1⟩) h1
   refine⟨v1,w1,iI,⟨fun k hk=>?_,inner++news,by rw[List.length_append,hm];exact h2,yq (hr.rU (fun _ _ hq=>step hq (fun _ hk=>hk))) (Tv.rU (fun _ _ hq=>step hq oQ))⟩,hg,Jk⟩;rcases Jk with dH|⟨b,hb,hle⟩
   ·exact jo k (dH▸hk)
   ·rw[hb] at hk;injection hk with hk
    exact gj k (by omega)
 obtain⟨v1,w1,sM,h1,hg,dH⟩:=iI;rw[if_pos hw];unfold Oper.wp execOp;simp only[ho,resolve,invoke,builtin,Sem.run_bind,Sem.run_pure,Result.andThen_ok,List.map_toArray,List.map_cons,List.map_nil,hs,hx,sM];exact h v1 w1 h1 (HB.grown hg eQ (nE mB)) hg dH
end Kd
end
inductive Jo (P:Program) (tmps:Array Value) (w:World):List ResultVar→List Value→Prop where
 |nil:Jo P tmps w [] []
 |tmp {u:Tmp} {rs:List ResultVar} {vs:List Value} (h:Jo P tmps w rs vs):Jo P tmps w (.tmp u::rs) (tmps.getD u undef::vs)
 |cell {p:Tmp} {ty:TypeId} {rs:List ResultVar} {vs:List Value} (g:Nat) (t:TypeId) (cs:Array Value) (fr:Nat×Nat) (d:TypeDesc)
  (hp:tmps.getD p undef= .pointer (some ⟨g,0,none⟩)) (hg:w.heap[g]? =some (.cells cs t fr))
  (hu:P.underlying ty=some d) (hd:(match d with| .struct _| .array _ _=>true|_=>false)=true) (hi:(P.info? ty).map (·.size)=some cs.size)
  (h:Jo P tmps w rs vs):Jo P tmps w (.cell p ty::rs) (.agg cs::vs)
section
variable {P:Program}{tmps:Array Value}{w:World}
theorem Pc{rs:List ResultVar}{vs:List Value}(hv:Jo P tmps w rs vs)(f:ResultVar→Sem Value)(hf:∀u,f (.tmp u)=pure (tmps.getD u undef))(hc:∀a t,f (.cell a t)=(do loadVar t (←asAddr (tmps.getD a undef)))):
 (rs.mapM f).run P w= .ok vs w:=by
 induction hv with
 |nil=>simp
 |tmp h ih=>simp [List.mapM_cons,hf,ih]
 |cell g t cs fr d hp hg hu hd hi h ih=>
  rw[List.mapM_cons,hc,hp];simp [asAddr,run_loadVar_row w g t _ cs fr d hg hu hd hi,ih]
theorem ek{fn:Func}{rs:List ResultVar}{vs:List Value}(h:fn.results=rs.toArray)(hl:vs.length≠1)(hv:Jo P tmps w rs vs):(results fn tmps).run P w= .ok (.tuple vs.toArray) w:=by
 unfold results;rw[h,List.mapM_toArray];simp only[Sem.run_bind,Sem.run_map];rw[Pc hv]
 ·simp [hl]
 ·intro u;rfl
 ·intro a t;rfl
end
end Go.Proofs.aa.ag
