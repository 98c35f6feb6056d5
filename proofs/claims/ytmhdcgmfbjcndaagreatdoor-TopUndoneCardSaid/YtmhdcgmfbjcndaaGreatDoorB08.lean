import Derived.Test.YtmhdcgmfbjcndaaGreatDoorB05
import Derived.Lib.SliceRun
import Derived.LoopTactic
import Derived.Outline
import Derived.Sort.LotA
import Derived.WalkSmall
import Derived.WalkSpells
set_option linter.unusedVariables false
set_option linter.unusedSimpArgs false
set_option maxRecDepth 100000
set_option maxHeartbeats 8000000
namespace Go.Proofs.YtmhdcgmfbjcndaaGreatDoor.P
open Go.RowKit Go.Proofs.aa.ag Go.Proofs.aa.ao Go.Proofs.aa.ay
def rA.f(l0:List cU):Option (List cU):=if l0.length<4398046511104 then some l0 else none
theorem rA.calls(A0:Option Addr)(c0:Nat)(l0 r:List cU)(w:World)(fS:Kd.C gW w A0 l0.length l0)(jr:l0.length≤c0)(h:rA.f l0=some r):
 Calls Tryz.prog 144 #[.slice A0 l0.length c0] w fun e w'=>∃kT:Value,e= .returned kT∧Kd.R gW 43 w' w.heap.size (fun _=>True) kT r∧Below w.heap.size w w':=by
 unfold rA.f at h;split at h
 ·rename_i JM
  obtain rfl:=Option.some.inj h;have jb:=ak fS;have OU:=fS.2.1;cases A0 with
  |none=>
   have GC:l0=[]:=by
    cases l0 with
    |nil=>rfl
    |cons x l0=>obtain⟨ad,e,_⟩:=fS.2.2 (by simp);cases e
   subst GC;have vA:=fun w:World=>Lib.run_eql_slice_nil (P:=Tryz.prog) w 24 43 none 0 c0 0 0 Tryz.underlying24;clear fS jr h;go_enter Tryz.func144,Tryz.ntmps144;go_wp2;go_ret;exact⟨_,rfl,Kd.lN _ _ _ _ _,Below.refl _ _⟩
  |some ad=>
   have vA:=fun w:World=>Lib.run_eql_slice_nil (P:=Tryz.prog) w 24 43 (some ad) l0.length c0 0 0 Tryz.underlying24;clear fS jr h;have HB:=ak (Below.refl w.heap.size w);go_enter Tryz.func144,Tryz.ntmps144
   go_wp2_with(first|((with_reducible refine gd 5 ?_);refine Kd.uq gW _ 43 ?hg (N:=5) ?hd (xs:=([]:List cU)) (inner:=[]) (ok:=fun _=>True) (kc:=fun _=>True) ?hr ?hp (fun _ hk=>hk) trivial (Below.refl _ _) (Nat.le_refl _) (by simp) ?_;(case hd=>rfl);(case hg=>rfl);(case hr=>first|(go_simp;done)|(go_simp;rfl));(case hp=>exact(fg.none _ _));intro v1 w1 ho hb qh gY;clear qh gY;have HO:=ak ho;have kC:=ak hb;clear ho hb)|((with_reducible refine dm (b:= .append) (xs:= #[.tmp 5,.tmp 6]) rfl ?_);at_builtin;refine Kd.ep gW (w0:=w) w.heap.size rfl (.tmp 5) (.tmp 6) 24 43 (.agg #[(.int .i64 0),(.bool false),(.bool false),(.int .i64 0),(.int .i64 0)]) 32 rfl Tryz.underlying24 oX rfl (by decide) (by omega) v1 [] l0 _ _ _ (fun _=>True) (fun _=>False) rfl rfl ?aO ?aR (fun _ _ h=>h) (fun _ h=>h.elim) ?aF ?aB ?aS ?aL ?_;(case aR=>exact(Kd.aj jb.1 kC.1));(case aB=>exact kC.1);(case aF=>exact(fun _ _=>trivial));(case aO=>exact HO.1);(case aS=>exact(aq kC.1));(case aL=>simp;omega);intro v2 w2 xt iq uN vH;rw[List.nil_append] at xt;have FN:=ak xt;have nS:=ak iq;clear xt iq uN vH))
   go_ret;exact⟨_,rfl,FN.1,nS.1⟩
 ·cases h
def dr.f(l0:List (List Int)):Option (List (List Int)):=if l0.length<1000000 then some l0 else none
theorem dr.calls(w0:World)(A0:Option Addr)(c0:Nat)(l0:List (List Int))(r:List (List Int))(w:World)(fS:Kd.C (Kd.slice 5 (Kd.int .u8)) w0 A0 l0.length l0)(ju:Below w0.heap.size w0 w)(jr:l0.length≤c0)(h:dr.f l0=some r):
 Calls Tryz.prog 134 #[.slice A0 l0.length c0] w fun e w'=>∃kT:Value,e= .returned kT∧Kd.N (Kd.slice 5 (Kd.int .u8)) 33 w' w.heap.size (fun k=>k<w0.heap.size∨w.heap.size≤k) kT r∧Below w.heap.size w w':=by
 unfold dr.f at h;split at h
 ·rename_i JM
  obtain rfl:=Option.some.inj h;have OU:=fS.2.1;cases A0 with
  |none=>
   have GC:l0=[]:=by
    cases l0 with
    |nil=>rfl
    |cons x l0=>obtain⟨ad,e,_⟩:=fS.2.2 (by simp);cases e
   subst GC;have vA:=fun w:World=>Lib.run_eql_slice_nil (P:=Tryz.prog) w 26 33 none 0 c0 0 0 Tryz.underlying26;clear fS jr h ju;go_enter Tryz.func134,Tryz.ntmps134;go_wp2;go_ret;exact⟨_,rfl,Kd.WC _ _ _ _ _,Below.refl _ _⟩
  |some ad=>
   have vA:=fun w:World=>Lib.run_eql_slice_nil (P:=Tryz.prog) w 26 33 (some ad) l0.length c0 0 0 Tryz.underlying26;have jb:=ak (Kd.ki (Kd.C_F (Kd.Jr 5 (Kd.Gf .u8)) fS) (ju.mono (Nat.le_refl _):Below w0.heap.size w0 w));have HW:=ak ju.size;clear fS jr h ju;go_enter Tryz.func134,Tryz.ntmps134
   go_wp2_with(first|((with_reducible refine gd 5 ?_);refine Kd.ads (Kd.slice 5 (Kd.int .u8)) _ 33 ?hg (N':=5) ?hd (xs:=([]:List (List Int))) (inner:=[]) (ok:=fun k=>k<w0.heap.size∨w.heap.size≤k) (kc:=fun _=>False) ?hr ?hp (fun _ hk=>hk.elim) (.inr (Nat.le_refl _)) (Below.refl w.heap.size w) (Nat.le_refl _) (by simp) ?_;(case hd=>rfl);(case hg=>rfl);(case hr=>first|(go_simp;done)|(go_simp;rfl));(case hp=>exact(fg.none _ _));intro v1 w1 ho hb qh gY;have HN:=ak gY;clear qh gY;have HO:=ak ho;have kC:=ak hb;clear ho hb)|((with_reducible refine dm (b:= .append) (xs:= #[.tmp 5,.tmp 6]) rfl ?_);at_builtin;refine Kd.Cc (Kd.slice 5 (Kd.int .u8)) (w0:=w) w.heap.size rfl (.tmp 5) (.tmp 6) 26 33 (.slice none 0 0) 24 rfl Tryz.underlying26 lh rfl (by decide) (by omega) v1 [] l0 _ _ _ (fun k=>k<w0.heap.size∨w.heap.size≤k) (fun k=>k<w0.heap.size) rfl rfl ?aO ?aR ?aK ?aF ?aB ?aS ?aL ?_;(case aR=>exact(Kd.ki jb.1 kC.1));(case aK=>exact(fun k hk=>⟨.inl hk,fun e=>by obtain⟨b,e1,e2⟩:=HN.1;rw[e1] at e;have:=Option.some.inj e;have:=HW.1;omega⟩));(case aB=>exact kC.1);(case aF=>exact(fun k hk=> .inr (Nat.le_trans (aq kC.1) hk)));(case aO=>exact HO.1);(case aS=>exact(aq kC.1));(case aL=>simp;omega);intro v2 w2 xt iq uN vH;rw[List.nil_append] at xt;have FN:=ak xt;have nS:=ak iq;clear xt iq uN vH))
   go_ret;exact⟨_,rfl,FN.1,nS.1⟩
 ·cases h
def dv.f(l0:List Int):Option (List Int):=if l0.length<140737488355328 then some l0 else none
theorem dv.calls(A0:Option Addr)(c0:Nat)(l0 r:List Int)(w:World)(fS:Kd.C (Kd.int .u8) w A0 l0.length l0)(jr:l0.length≤c0)(h:dv.f l0=some r):
 Calls Tryz.prog 92 #[.slice A0 l0.length c0] w fun e w'=>∃kT:Value,e= .returned kT∧Kd.R (Kd.int .u8) 5 w' w.heap.size (fun _=>True) kT r∧Below w.heap.size w w':=by
 unfold dv.f at h;split at h
 ·rename_i JM
  obtain rfl:=Option.some.inj h;have jb:=ak fS;have OU:=fS.2.1;cases A0 with
  |none=>
   have GC:l0=[]:=by
    cases l0 with
    |nil=>rfl
    |cons x l0=>obtain⟨ad,e,_⟩:=fS.2.2 (by simp);cases e
   subst GC;have vA:=fun w:World=>Lib.run_eql_slice_nil (P:=Tryz.prog) w 33 5 none 0 c0 0 0 Tryz.underlying33;clear fS jr h;go_enter Tryz.func92,Tryz.ntmps92;go_wp2;go_ret;exact⟨_,rfl,Kd.lN _ _ _ _ _,Below.refl _ _⟩
  |some ad=>
   have vA:=fun w:World=>Lib.run_eql_slice_nil (P:=Tryz.prog) w 33 5 (some ad) l0.length c0 0 0 Tryz.underlying33;clear fS jr h;have HB:=ak (Below.refl w.heap.size w);go_enter Tryz.func92,Tryz.ntmps92
   go_wp2_with(first|((with_reducible refine gd 5 ?_);refine Kd.uq (Kd.int .u8) _ 5 ?hg (N:=5) ?hd (xs:=([]:List Int)) (inner:=[]) (ok:=fun _=>True) (kc:=fun _=>True) ?hr ?hp (fun _ hk=>hk) trivial (Below.refl _ _) (Nat.le_refl _) (by simp) ?_;(case hd=>rfl);(case hg=>rfl);(case hr=>first|(go_simp;done)|(go_simp;rfl));(case hp=>exact(fg.none _ _));intro v1 w1 ho hb qh gY;clear qh gY;have HO:=ak ho;have kC:=ak hb;clear ho hb)|((with_reducible refine dm (b:= .append) (xs:= #[.tmp 5,.tmp 6]) rfl ?_);at_builtin;refine Kd.ep (Kd.int .u8) (w0:=w) w.heap.size rfl (.tmp 5) (.tmp 6) 33 5 (.int .u8 0) 1 rfl Tryz.underlying33 kG rfl (by decide) (by omega) v1 [] l0 _ _ _ (fun _=>True) (fun _=>False) rfl rfl ?aO ?aR (fun _ _ h=>h) (fun _ h=>h.elim) ?aF ?aB ?aS ?aL ?_;(case aR=>exact(Kd.aj jb.1 kC.1));(case aB=>exact kC.1);(case aF=>exact(fun _ _=>trivial));(case aO=>exact HO.1);(case aS=>exact(aq kC.1));(case aL=>simp;omega);intro v2 w2 xt iq uN vH;rw[List.nil_append] at xt;have FN:=ak xt;have nS:=ak iq;clear xt iq uN vH))
   go_ret;exact⟨_,rfl,FN.1,nS.1⟩
 ·cases h
def oN.f(l0:List Int):Option (List Int):=if l0.length<17592186044416 then some l0 else none
theorem oN.calls(A0:Option Addr)(c0:Nat)(l0 r:List Int)(w:World)(fS:Kd.C (Kd.int .i64) w A0 l0.length l0)(jr:l0.length≤c0)(h:oN.f l0=some r):
 Calls Tryz.prog 133 #[.slice A0 l0.length c0] w fun e w'=>∃kT:Value,e= .returned kT∧Kd.R (Kd.int .i64) 3 w' w.heap.size (fun _=>True) kT r∧Below w.heap.size w w':=by
 unfold oN.f at h;split at h
 ·rename_i JM
  obtain rfl:=Option.some.inj h;have jb:=ak fS;have OU:=fS.2.1;cases A0 with
  |none=>
   have GC:l0=[]:=by
    cases l0 with
    |nil=>rfl
    |cons x l0=>obtain⟨ad,e,_⟩:=fS.2.2 (by simp);cases e
   subst GC;have vA:=fun w:World=>Lib.run_eql_slice_nil (P:=Tryz.prog) w 68 3 none 0 c0 0 0 Tryz.underlying68;clear fS jr h;go_enter Tryz.func133,Tryz.ntmps133;go_wp2;go_ret;exact⟨_,rfl,Kd.lN _ _ _ _ _,Below.refl _ _⟩
  |some ad=>
   have vA:=fun w:World=>Lib.run_eql_slice_nil (P:=Tryz.prog) w 68 3 (some ad) l0.length c0 0 0 Tryz.underlying68;clear fS jr h;have HB:=ak (Below.refl w.heap.size w);go_enter Tryz.func133,Tryz.ntmps133
   go_wp2_with(first|((with_reducible refine gd 5 ?_);refine Kd.uq (Kd.int .i64) _ 3 ?hg (N:=5) ?hd (xs:=([]:List Int)) (inner:=[]) (ok:=fun _=>True) (kc:=fun _=>True) ?hr ?hp (fun _ hk=>hk) trivial (Below.refl _ _) (Nat.le_refl _) (by simp) ?_;(case hd=>rfl);(case hg=>rfl);(case hr=>first|(go_simp;done)|(go_simp;rfl));(case hp=>exact(fg.none _ _));intro v1 w1 ho hb qh gY;clear qh gY;have HO:=ak ho;have kC:=ak hb;clear ho hb)|((with_reducible refine dm (b:= .append) (xs:= #[.tmp 5,.tmp 6]) rfl ?_);at_builtin;refine Kd.ep (Kd.int .i64) (w0:=w) w.heap.size rfl (.tmp 5) (.tmp 6) 68 3 (.int .i64 0) 8 rfl Tryz.underlying68 pT rfl (by decide) (by omega) v1 [] l0 _ _ _ (fun _=>True) (fun _=>False) rfl rfl ?aO ?aR (fun _ _ h=>h) (fun _ h=>h.elim) ?aF ?aB ?aS ?aL ?_;(case aR=>exact(Kd.aj jb.1 kC.1));(case aB=>exact kC.1);(case aF=>exact(fun _ _=>trivial));(case aO=>exact HO.1);(case aS=>exact(aq kC.1));(case aL=>simp;omega);intro v2 w2 xt iq uN vH;rw[List.nil_append] at xt;have FN:=ak xt;have nS:=ak iq;clear xt iq uN vH))
   go_ret;exact⟨_,rfl,FN.1,nS.1⟩
 ·cases h
end Go.Proofs.YtmhdcgmfbjcndaaGreatDoor.P
namespace Go.Proofs.YtmhdcgmfbjcndaaGreatDoor.Ay
open Go.Sort
variable {α:Type}[Inhabited α]
def fM(a b:Nat):Nat→Nat→Array α→Array α
 |0,_,d=>d
 |k+1,i,d=>fM a b k (i+1) (swp d (a+i) (b+i))
def qQ(m:Nat):Nat→Nat→Nat→Array α→Array α
 |0,_,_,d=>d
 |k+1,i,j,d=>if i=j then fM (m-i) m i 0 d else if j<i then qQ m k (i-j) j (fM (m-i) m j 0 d) else qQ m k i (j-i) (fM (m-i) (m+j-i) i 0 d)
def rotate(a m b:Nat)(d:Array α):Array α:=qQ m (b-a) (m-a) (b-m) d
def bs(p:Nat→Bool):Nat→Nat→Nat→Nat
 |0,i,_=>i
 |k+1,i,j=>if i<j then if p ((i+j)/2) then bs p k ((i+j)/2+1) j else bs p k i ((i+j)/2) else i
def og:Nat→Nat→Array α→Array α
 |0,_,d=>d
 |n+1,k,d=>og n (k+1) (swp d k (k+1))
def jc:Nat→Nat→Array α→Array α
 |0,_,d=>d
 |n+1,k,d=>jc n (k-1) (swp d k (k-1))
section
variable (lt:α→α→Bool)
def splitAt(d:Array α)(a m b:Nat):Nat:=
 if(a+b)/2<m then bs (fun c=> !lt d[(a+b)/2+m-1-c]! d[c]!) b ((a+b)/2+m-b) ((a+b)/2) else bs (fun c=> !lt d[(a+b)/2+m-1-c]! d[c]!) b a m
def fJ:Nat→Nat→Nat→Nat→Array α→Array α
 |0,_,_,_,d=>d
 |k+1,a,m,b,d=>
  if m-a=1 then og (bs (fun h=>lt d[h]! d[a]!) b m b-1-a) a d
  else if b-m=1 then jc (m-bs (fun h=> !lt d[m]! d[h]!) b a m) m d
  else
   let s:=splitAt lt d a m b
   let e:=(a+b)/2+m-s
   let d1:=if s<m∧m<e then rotate s m e d else d
   let d2:=if a<s∧s<(a+b)/2 then fJ k a s ((a+b)/2) d1 else d1
   if(a+b)/2<e∧e<b then fJ k ((a+b)/2) e b d2 else d2
def nX(n:Nat)(d:Array α):Array α:=
 if n<20 then insertionSort lt d 0 n
 else if n=20 then insertionSort lt (insertionSort lt d 0 20) 20 20
 else fJ lt 64 0 20 n (insertionSort lt (insertionSort lt d 0 20) 20 n)
end
theorem fK(a b:Nat):∀(k i:Nat)(d:Array α),(fM a b k i d).size=d.size
 |0,_,_=>rfl
 |k+1,i,d=>by rw[fM,fK,size_swp]
theorem nc(a b:Nat):∀(k i:Nat)(d:Array α),a+i+k≤b+i→b+i+k≤d.size→∀t,(fM a b k i d)[t]! =
 if a+i≤t∧t<a+i+k then d[t+(b-a)]! else if b+i≤t∧t<b+i+k then d[t-(b-a)]! else d[t]!
 |0,i,d,h1,h2,t=>by rw[fM,if_neg (by omega),if_neg (by omega)]
 |k+1,i,d,h1,h2,t=>by
  have g:=swp_get d (i:=a+i) (j:=b+i) (by omega) (by omega);rw[fM,nc a b k (i+1) _ (by omega) (by rw[size_swp];omega) t]
  by_cases c1:a+(i+1)≤t∧t<a+(i+1)+k
  ·rw[if_pos c1,if_pos (by omega),g,if_neg (by omega),if_neg (by omega)]
  ·rw[if_neg c1]
   by_cases c2:b+(i+1)≤t∧t<b+(i+1)+k
   ·rw[if_pos c2,if_neg (by omega),if_pos (by omega),g,if_neg (by omega),if_neg (by omega)]
   ·rw[if_neg c2,g]
    by_cases c3:t=b+i
    ·rw[if_pos c3,if_neg (by omega),if_pos (by omega)];congr 1;omega
    ·rw[if_neg c3]
     by_cases c4:t=a+i
     ·rw[if_pos c4,if_pos (by omega)];congr 1;omega
     ·rw[if_neg c4,if_neg (by omega),if_neg (by omega)]
theorem mf(a b lo hi:Nat):∀(k i:Nat)(d:Array α),lo≤a+i→lo≤b+i→a+i+k≤hi→b+i+k≤hi→hi≤d.size→PermIn lo hi d (fM a b k i d)
 |0,i,d,_,_,_,_,_=>permIn_refl d lo hi
 |k+1,i,d,h1,h2,h3,h4,h5=>by
  rw[fM];exact permIn_trans _ _ _ lo hi (swp_permIn d lo hi (a+i) (b+i) h1 (by omega) h2 (by omega) h5) (mf a b lo hi k (i+1) _ (by omega) (by omega) (by omega) (by omega) (by rw[size_swp];exact h5))
theorem xE(m:Nat):∀(k i j:Nat)(d:Array α),i+j≤k→0<i→0<j→i≤m→m+j≤d.size→∀t,(qQ m k i j d)[t]! =
 if m-i≤t∧t<m-i+j then d[t+i]! else if m-i+j≤t∧t<m+j then d[t-j]! else d[t]!
 |0,i,j,d,h1,h2,h3,h4,h5,t=>by omega
 |k+1,i,j,d,h1,h2,h3,h4,h5,t=>by
  rw[qQ]
  by_cases c:i=j
  ·subst c;rw[if_pos rfl,nc _ _ _ _ _ (by omega) (by omega) t]
   by_cases c1:m-i≤t∧t<m-i+i
   ·rw[if_pos (by omega),if_pos c1];congr 1;omega
   ·rw[if_neg (by omega),if_neg c1]
    by_cases c2:m-i+i≤t∧t<m+i
    ·rw[if_pos (by omega),if_pos c2];congr 1;omega
    ·rw[if_neg (by omega),if_neg c2]
  ·rw[if_neg c]
   by_cases c0:j<i
   ·rw[if_pos c0,xE m k (i-j) j _ (by omega) (by omega) h3 (by omega) (by rw[fK];exact h5) t];have g:=nc (m-i) m j 0 d (by omega) (by omega);rw[g,g,g]
    by_cases c1:m-i≤t∧t<m-i+j
    ·rw[if_neg (by omega),if_neg (by omega),if_pos (by omega),if_pos c1];congr 1;omega
    ·rw[if_neg c1]
     by_cases c2:m-i+j≤t∧t<m+j
     ·rw[if_pos c2]
      by_cases c3:t<m-i+j+j
      ·rw[if_pos (by omega),if_neg (by omega),if_pos (by omega)];congr 1;omega
      ·rw[if_neg (by omega),if_pos (by omega),if_neg (by omega),if_neg (by omega)]
     ·rw[if_neg c2,if_neg (by omega),if_neg (by omega),if_neg (by omega),if_neg (by omega)]
   ·rw[if_neg c0,xE m k i (j-i) _ (by omega) h2 (by omega) h4 (by rw[fK];omega) t];have g:=nc (m-i) (m+j-i) i 0 d (by omega) (by omega);rw[g,g,g]
    by_cases c1:m-i≤t∧t<m-i+j
    ·rw[if_pos c1]
     by_cases c3:t<m-i+(j-i)
     ·rw[if_pos (by omega),if_neg (by omega),if_neg (by omega)]
     ·rw[if_neg (by omega),if_pos (by omega),if_pos (by omega)];congr 1;omega
    ·rw[if_neg c1,if_neg (by omega)]
     by_cases c2:m-i+j≤t∧t<m+j
     ·rw[if_pos c2]
      by_cases c4:t<m+(j-i)
      ·omega
      ·rw[if_neg (by omega),if_neg (by omega),if_pos (by omega)];congr 1;omega
     ·rw[if_neg c2,if_neg (by omega),if_neg (by omega),if_neg (by omega)]
theorem uO(m:Nat):∀(k i j:Nat)(d:Array α),(qQ m k i j d).size=d.size
 |0,_,_,_=>rfl
 |k+1,i,j,d=>by
  rw[qQ];split
  ·rw[fK]
  ·split<;>rw[uO,fK]
theorem uP(m lo hi:Nat):∀(k i j:Nat)(d:Array α),i≤m→lo≤m-i→m+j≤hi→hi≤d.size→PermIn lo hi d (qQ m k i j d)
 |0,_,_,d,_,_,_,_=>permIn_refl d lo hi
 |k+1,i,j,d,h1,h2,h3,h4=>by
  rw[qQ]
  by_cases c:i=j
  ·rw[if_pos c];exact mf _ _ lo hi _ _ d (by omega) (by omega) (by omega) (by omega) h4
  ·rw[if_neg c]
   by_cases c0:j<i
   ·rw[if_pos c0];exact permIn_trans _ _ _ lo hi (mf _ _ lo hi _ _ d (by omega) (by omega) (by omega) (by omega) h4) (uP m lo hi k (i-j) j _ (by omega) (by omega) h3 (by rw[fK];exact h4))
   ·rw[if_neg c0];exact permIn_trans _ _ _ lo hi (mf _ _ lo hi _ _ d (by omega) (by omega) (by omega) (by omega) h4) (uP m lo hi k i (j-i) _ (by omega) (by omega) (by omega) (by rw[fK];exact h4))
theorem tU(p:Nat→Bool)(lo hi:Nat):∀(k i j:Nat),j-i≤k→lo≤i→i≤j→j≤hi→(i=lo∨p (i-1)=true)→(j=hi∨p j=false)→
 lo≤bs p k i j∧bs p k i j≤hi∧(bs p k i j=lo∨p (bs p k i j-1)=true)∧(bs p k i j=hi∨p (bs p k i j)=false)
 |0,i,j,h1,h2,h3,h4,h5,h6=>by
  obtain rfl:i=j:=by omega
  exact⟨h2,h4,h5,h6⟩
 |k+1,i,j,h1,h2,h3,h4,h5,h6=>by
  rw[bs]
  by_cases c:i<j
  ·rw[if_pos c];cases hp:p ((i+j)/2) with
   |true=>rw[if_pos rfl];exact tU p lo hi k _ j (by omega) (by omega) (by omega) h4 (.inr (by rw[Nat.add_sub_cancel];exact hp)) h6
   |false=>rw[if_neg (by simp)];exact tU p lo hi k i _ (by omega) h2 (by omega) (by omega) h5 (.inr hp)
  ·rw[if_neg c];obtain rfl:i=j:=by omega
   exact⟨h2,h4,h5,h6⟩
theorem Az:∀(n k:Nat)(d:Array α),(og n k d).size=d.size
 |0,_,_=>rfl
 |n+1,k,d=>by rw[og,Az,size_swp]
theorem xF:∀(n k:Nat)(d:Array α),k+n<d.size→∀t,(og n k d)[t]! =if k≤t∧t<k+n then d[t+1]! else if t=k+n then d[k]! else d[t]!
 |0,k,d,h,t=>by
  rw[og,if_neg (by omega)]
  by_cases c:t=k+0
  ·rw[if_pos c];congr 1
  ·rw[if_neg c]
 |n+1,k,d,h,t=>by
  have g:=swp_get d (i:=k) (j:=k+1) (by omega) (by omega);rw[og,xF n (k+1) _ (by rw[size_swp];omega) t,g,g,g]
  by_cases c1:k+1≤t∧t<k+1+n
  ·rw[if_pos c1,if_neg (by omega),if_neg (by omega),if_pos (by omega)]
  ·rw[if_neg c1]
   by_cases c2:t=k+1+n
   ·rw[if_pos c2,if_pos rfl,if_neg (by omega),if_pos (by omega)]
   ·rw[if_neg c2,if_neg (by omega)]
    by_cases c3:t=k
    ·rw[if_pos c3,if_pos (by omega)];congr 1;omega
    ·rw[if_neg c3,if_neg (by omega),if_neg (by omega)]
theorem AA(lo hi:Nat):∀(n k:Nat)(d:Array α),lo≤k→k+n<hi→hi≤d.size→PermIn lo hi d (og n k d)
 |0,_,d,_,_,_=>permIn_refl d lo hi
 |n+1,k,d,h1,h2,h3=>by
  rw[og];exact permIn_trans _ _ _ lo hi (swp_permIn d lo hi k (k+1) h1 (by omega) (by omega) (by omega) h3) (AA lo hi n (k+1) _ (by omega) (by omega) (by rw[size_swp];exact h3))
theorem vJ:∀(n k:Nat)(d:Array α),(jc n k d).size=d.size
 |0,_,_=>rfl
 |n+1,k,d=>by rw[jc,vJ,size_swp]
theorem tc:∀(n k:Nat)(d:Array α),k<d.size→n≤k→∀t,(jc n k d)[t]! =if k-n<t∧t≤k then d[t-1]! else if t=k-n then d[k]! else d[t]!
 |0,k,d,h,h2,t=>by
  rw[jc,if_neg (by omega)]
  by_cases c:t=k-0
  ·rw[if_pos c];congr 1
  ·rw[if_neg c]
 |n+1,k,d,h,h2,t=>by
  have g:=swp_get d (i:=k) (j:=k-1) (by omega) (by omega);rw[jc,tc n (k-1) _ (by rw[size_swp];omega) (by omega) t,g,g,g]
  by_cases c1:k-1-n<t∧t≤k-1
  ·rw[if_pos c1,if_neg (by omega),if_neg (by omega),if_pos (by omega)]
  ·rw[if_neg c1]
   by_cases c2:t=k-1-n
   ·rw[if_pos c2,if_pos rfl,if_neg (by omega),if_pos (by omega)]
   ·rw[if_neg c2,if_neg (by omega)]
    by_cases c3:t=k
    ·rw[if_pos c3,if_pos (by omega)];congr 1;omega
    ·rw[if_neg c3,if_neg (by omega),if_neg (by omega)]
theorem vK(lo hi:Nat):∀(n k:Nat)(d:Array α),lo+n≤k→k<hi→hi≤d.size→PermIn lo hi d (jc n k d)
 |0,_,d,_,_,_=>permIn_refl d lo hi
 |n+1,k,d,h1,h2,h3=>by
  rw[jc];exact permIn_trans _ _ _ lo hi (swp_permIn d lo hi k (k-1) (by omega) (by omega) (by omega) (by omega) h3) (vK lo hi n (k-1) _ (by omega) (by omega) (by rw[size_swp];exact h3))
variable {lt:α→α→Bool}
theorem vL(d:Array α)(a m b:Nat)(h1:a<m)(h2:m<b):
 a≤splitAt lt d a m b∧splitAt lt d a m b≤m∧splitAt lt d a m b≤(a+b)/2∧(a+b)/2+m-b≤splitAt lt d a m b∧
 (splitAt lt d a m b=a∨splitAt lt d a m b=(a+b)/2+m-b∨lt d[(a+b)/2+m-splitAt lt d a m b]! d[splitAt lt d a m b-1]! =false)∧
 (splitAt lt d a m b=m∨splitAt lt d a m b=(a+b)/2∨lt d[(a+b)/2+m-1-splitAt lt d a m b]! d[splitAt lt d a m b]! =true):=by
 unfold splitAt
 by_cases c:(a+b)/2<m
 ·rw[if_pos c];have h:=tU (fun c=> !lt d[(a+b)/2+m-1-c]! d[c]!) ((a+b)/2+m-b) ((a+b)/2) b ((a+b)/2+m-b) ((a+b)/2) (by omega) (Nat.le_refl _) (by omega) (Nat.le_refl _) (.inl rfl) (.inl rfl);generalize bs (fun c=> !lt d[(a+b)/2+m-1-c]! d[c]!) b ((a+b)/2+m-b) ((a+b)/2)=s at h;obtain⟨g1,g2,g3,g4⟩:=h;refine⟨by omega,by omega,g2,g1,?_,?_⟩
  ·rcases g3 with g3|g3
   ·exact .inr (.inl g3)
   ·by_cases z:s=0
    ·left;omega
    ·right;right;simp only[Bool.not_eq_true'] at g3;rw[show(a+b)/2+m-s=(a+b)/2+m-1-(s-1) by omega];exact g3
  ·rcases g4 with g4|g4
   ·exact .inr (.inl g4)
   ·exact .inr (.inr (by simpa using g4))
 ·rw[if_neg c];have h:=tU (fun c=> !lt d[(a+b)/2+m-1-c]! d[c]!) a m b a m (by omega) (Nat.le_refl _) (by omega) (Nat.le_refl _) (.inl rfl) (.inl rfl);generalize bs (fun c=> !lt d[(a+b)/2+m-1-c]! d[c]!) b a m=s at h;obtain⟨g1,g2,g3,g4⟩:=h;refine⟨g1,g2,by omega,by omega,?_,?_⟩
  ·rcases g3 with g3|g3
   ·exact .inl g3
   ·by_cases z:s=a
    ·left;omega
    ·right;right;simp only[Bool.not_eq_true'] at g3;rw[show(a+b)/2+m-s=(a+b)/2+m-1-(s-1) by omega];exact g3
  ·rcases g4 with g4|g4
   ·exact .inl g4
   ·exact .inr (.inr (by simpa using g4))
theorem Jy(hS:SWO lt){a mid b:Nat}{d d':Array α}(hb:b≤d.size)(hm1:a≤mid)(hm2:mid≤b)(s1:SortedIn lt a mid d')(s2:SortedIn lt mid b d')(x:∀i j,a≤i→i<mid→mid≤j→j<b→lt d'[j]! d'[i]! =false):SortedIn lt a b d':=by
 intro i j h1 h2 h3
 by_cases c:j<mid
 ·exact s1 i j h1 h2 c
 ·by_cases c2:i<mid
  ·exact x i j h1 c2 (by omega) h3
  ·exact s2 i j (by omega) h2 h3
theorem WI(d d':Array α)(lo hi lo2 SL:Nat)(q:α→α→Prop)(h1:hi≤d.size)(hp:PermIn lo hi d d')(hd:hi≤lo2∨SL≤lo)(h:∀i j,lo≤i→i<hi→lo2≤j→j<SL→q d[i]! d[j]!):
 ∀i j,lo≤i→i<hi→lo2≤j→j<SL→q d'[i]! d'[j]! :=by
 intro i j a1 a2 a3 a4;rw[hp.2.1 j (by omega)];exact permIn_all d d' lo hi (fun x=>q x d[j]!) h1 hp (fun i b1 b2=>h i j b1 b2 a3 a4) i a1 a2
theorem nh:∀(k a m b:Nat)(d:Array α),(fJ lt k a m b d).size=d.size
 |0,_,_,_,_=>rfl
 |k+1,a,m,b,d=>by
  rw[fJ];split
  ·rw[Az]
  ·split
   ·rw[vJ]
   ·have h1:(if splitAt lt d a m b<m∧m<(a+b)/2+m-splitAt lt d a m b then rotate (splitAt lt d a m b) m ((a+b)/2+m-splitAt lt d a m b) d else d).size=d.size:=by
     split
     ·unfold rotate;rw[uO]
     ·rfl
    simp only[];split<;>(try rw[nh])<;>split<;>(try rw[nh])<;>exact h1
theorem qE(hS:SWO lt):∀(k a m b:Nat)(d:Array α),b-a≤k→a<m→m<b→b≤d.size→SortedIn lt a m d→SortedIn lt m b d→
 PermIn a b d (fJ lt k a m b d)∧SortedIn lt a b (fJ lt k a m b d)
 |0,a,m,b,d,h0,h1,h2,h3,s1,s2=>by omega
 |k+1,a,m,b,d,h0,h1,h2,h3,s1,s2=>by
  rw[fJ]
  by_cases c1:m-a=1
  ·rw[if_pos c1];obtain⟨g1,g2,g3,g4⟩:=tU (fun h=>lt d[h]! d[a]!) m b b m b (by omega) (Nat.le_refl _) (by omega) (Nat.le_refl _) (.inl rfl) (.inl rfl);generalize bs (fun h=>lt d[h]! d[a]!) b m b=i at g1 g2 g3 g4;refine⟨AA a b _ _ d (Nat.le_refl _) (by omega) h3,?_⟩;intro x y hx hxy hy;rw[xF _ _ _ (by omega),xF _ _ _ (by omega)]
   by_cases p1:y<i-1
   ·rw[if_pos (by omega),if_pos (by omega)];exact s2 (x+1) (y+1) (by omega) (by omega) (by omega)
   ·by_cases p2:y=i-1
    ·rw[if_neg (by omega),if_pos (by omega),if_pos (by omega)];rcases g3 with g3|g3
     ·omega
     ·by_cases p3:x+1=i-1
      ·rw[p3];exact hS.asymmA g3
      ·have:lt d[i-1]! d[x+1]! =false:=s2 (x+1) (i-1) (by omega) (by omega) (by omega);cases hc:lt d[a]! d[x+1]! with
       |false=>rfl
       |true=>rw[hS.trans _ _ _ g3 hc] at this;cases this
    ·rw[if_neg (by omega),if_neg (by omega)]
     by_cases p4:x<i-1
     ·rw[if_pos (by omega)];exact s2 (x+1) y (by omega) (by omega) hy
     ·rw[if_neg (by omega)]
      by_cases p5:x=i-1
      ·rw[if_pos (by omega)];rcases g4 with g4|g4
       ·omega
       ·by_cases p6:y=i
        ·rw[p6];exact g4
        ·exact hS.ntrans _ _ _ (s2 i y (by omega) (by omega) hy) g4
      ·rw[if_neg (by omega)];exact s2 x y (by omega) hxy hy
  ·rw[if_neg c1]
   by_cases c2:b-m=1
   ·rw[if_pos c2];obtain⟨g1,g2,g3,g4⟩:=tU (fun h=> !lt d[m]! d[h]!) a m b a m (by omega) (Nat.le_refl _) (by omega) (Nat.le_refl _) (.inl rfl) (.inl rfl);generalize bs (fun h=> !lt d[m]! d[h]!) b a m=i at g1 g2 g3 g4;refine⟨vK a b _ _ d (by omega) (by omega) h3,?_⟩;intro x y hx hxy hy;rw[tc _ _ _ (by omega) (by omega),tc _ _ _ (by omega) (by omega)]
    by_cases p1:y<i
    ·rw[if_neg (by omega),if_neg (by omega),if_neg (by omega),if_neg (by omega)];exact s1 x y hx hxy (by omega)
    ·by_cases p2:y=i
     ·rw[if_neg (by omega),if_pos (by omega),if_neg (by omega),if_neg (by omega)];rcases g3 with g3|g3
      ·omega
      ·simp only[Bool.not_eq_true'] at g3
       by_cases p3:x=i-1
       ·rw[p3];exact g3
       ·exact hS.ntrans _ _ _ g3 (s1 x (i-1) (by omega) (by omega) (by omega))
     ·rw[if_pos (by omega)]
      by_cases p4:x<i
      ·rw[if_neg (by omega),if_neg (by omega)];exact s1 x (y-1) hx (by omega) (by omega)
      ·by_cases p5:x=i
       ·rw[if_neg (by omega),if_pos (by omega)];rcases g4 with g4|g4
        ·omega
        ·simp only[Bool.not_eq_false'] at g4
         by_cases p6:y-1=i
         ·rw[p6];exact hS.asymmA g4
         ·have:lt d[y-1]! d[i]! =false:=s1 i (y-1) (by omega) (by omega) (by omega);cases hc:lt d[y-1]! d[m]! with
          |false=>rfl
          |true=>rw[hS.trans _ _ _ hc g4] at this;cases this
       ·rw[if_pos (by omega)];exact s1 (x-1) (y-1) (by omega) (by omega) (by omega)
   ·rw[if_neg c2];obtain⟨g1,g2,g3,g4,g5,g6⟩:=vL (lt:=lt) d a m b h1 h2;generalize splitAt lt d a m b=s at g1 g2 g3 g4 g5 g6;obtain⟨e,he⟩:∃e,e=(a+b)/2+m-s:=⟨_,rfl⟩;obtain⟨mid,Jz⟩:∃mid,mid=(a+b)/2:=⟨_,rfl⟩;simp only[];rw[←he];rw[←Jz] at he g3 g4 g5 g6⊢;rw[←he] at g5;rw[show mid+m-1-s=e-1 by omega] at g6;obtain⟨d1,BT⟩:∃d1,d1=if s<m∧m<e then rotate s m e d else d:=⟨_,rfl⟩
    rw[←BT]
    have p1:PermIn a b d d1:=by
     rw[BT];split
     ·exact uP m a b _ _ _ d (by omega) (by omega) (by omega) h3
     ·exact permIn_refl _ _ _
    have z1:d1.size=d.size:=p1.1
    have Cf:∀t,d1[t]! =if s≤t∧t<mid then d[t+(m-s)]! else if mid≤t∧t<e then d[t-(e-m)]! else d[t]! :=by
     intro t;rw[BT]
     by_cases cc:s<m∧m<e
     ·rw[if_pos cc];unfold rotate;rw[xE m _ _ _ d (by omega) (by omega) (by omega) (by omega) (by omega) t,show m-(m-s)=s by omega,show s+(e-m)=mid by omega,show m+(e-m)=e by omega]
     ·rw[if_neg cc]
      by_cases q1:s≤t∧t<mid
      ·rw[if_pos q1];congr 1;omega
      ·rw[if_neg q1]
       by_cases q2:mid≤t∧t<e
       ·rw[if_pos q2];congr 1;omega
       ·rw[if_neg q2]
    have hsd:∀i j,a≤i→i<mid→mid≤j→j<b→lt d1[j]! d1[i]! =false:=by
     intro i j q1 q2 q3 q4;rw[Cf,Cf,if_neg (by omega)]
     by_cases r1:i<s
     ·by_cases r2:j<e
      ·rw[if_pos (by omega),if_neg (by omega),if_neg (by omega)];exact s1 i _ q1 (by omega) (by omega)
      ·rw[if_neg (by omega),if_neg (by omega),if_neg (by omega)]
       have k1:lt d[e]! d[s-1]! =false:=by
        rcases g5 with g5|g5|g5
        ·omega
        ·omega
        ·exact g5
       have k2:lt d[j]! d[s-1]! =false:=by
        by_cases r3:j=e
        ·rw[r3];exact k1
        ·exact hS.ntrans _ _ _ (s2 e j (by omega) (by omega) q4) k1
       by_cases r4:i=s-1
       ·rw[r4];exact k2
       ·exact hS.ntrans _ _ _ k2 (s1 i (s-1) q1 (by omega) (by omega))
     ·by_cases r2:j<e
      ·rw[if_pos (by omega),if_pos (by omega)]
       have k1:lt d[e-1]! d[s]! =true:=by
        rcases g6 with g6|g6|g6
        ·omega
        ·omega
        ·exact g6
       have k2:lt d[e-1]! d[i+(m-s)]! =false:=by
        by_cases r3:i+(m-s)=e-1
        ·rw[r3];exact hS.irrefl _
        ·exact s2 _ _ (by omega) (by omega) (by omega)
       have k3:lt d[j-(e-m)]! d[s]! =false:=by
        by_cases r3:j-(e-m)=s
        ·rw[r3];exact hS.irrefl _
        ·exact s1 _ _ (by omega) (by omega) (by omega)
       have k4:lt d[s]! d[i+(m-s)]! =false:=by
        cases hc:lt d[s]! d[i+(m-s)]! with
        |false=>rfl
        |true=>rw[hS.trans _ _ _ k1 hc] at k2;cases k2
       exact hS.ntrans _ _ _ k3 k4
      ·rw[if_neg (by omega),if_pos (by omega)];exact s2 _ _ (by omega) (by omega) q4
    have t1:SortedIn lt a s d1:=by
     intro i j q1 q2 q3;rw[Cf,Cf,if_neg (by omega),if_neg (by omega),if_neg (by omega),if_neg (by omega)];exact s1 i j q1 q2 (by omega)
    have t2:SortedIn lt s mid d1:=by
     intro i j q1 q2 q3;rw[Cf,Cf,if_pos (by omega),if_pos (by omega)];exact s2 _ _ (by omega) (by omega) (by omega)
    have t3:SortedIn lt mid e d1:=by
     intro i j q1 q2 q3;rw[Cf,Cf,if_neg (by omega),if_pos (by omega),if_neg (by omega),if_pos (by omega)];exact s1 _ _ (by omega) (by omega) (by omega)
    have t4:SortedIn lt e b d1:=by
     intro i j q1 q2 q3;rw[Cf,Cf,if_neg (by omega),if_neg (by omega),if_neg (by omega),if_neg (by omega)];exact s2 _ _ (by omega) (by omega) (by omega)
    obtain⟨d2,zd⟩:∃d2,d2=if a<s∧s<mid then fJ lt k a s mid d1 else d1:=⟨_,rfl⟩
    rw[←zd]
    have l2:PermIn a mid d1 d2∧SortedIn lt a mid d2:=by
     rw[zd]
     by_cases cc:a<s∧s<mid
     ·rw[if_pos cc];exact qE hS k a s mid d1 (by omega) cc.1 cc.2 (by omega) t1 t2
     ·rw[if_neg cc];refine⟨permIn_refl _ _ _,?_⟩
      by_cases q:s=a
      ·rw[←q];exact t2
      ·have:s=mid:=by omega
       rw[←this];exact t1
    have z2:d2.size=d1.size:=l2.1.1;have akZ:∀i j,a≤i→i<mid→mid≤j→j<b→lt d2[j]! d2[i]! =false:=WI d1 d2 a mid mid b (fun x y=>lt y x=false) (by omega) l2.1 (.inl (Nat.le_refl _)) hsd
    have t3':SortedIn lt mid e d2:=by
     intro i j q1 q2 q3;rw[l2.1.2.1 i (by omega),l2.1.2.1 j (by omega)];exact t3 i j q1 q2 q3
    have t4':SortedIn lt e b d2:=by
     intro i j q1 q2 q3;rw[l2.1.2.1 i (by omega),l2.1.2.1 j (by omega)];exact t4 i j q1 q2 q3
    obtain⟨d3,TO⟩:∃d3,d3=if mid<e∧e<b then fJ lt k mid e b d2 else d2:=⟨_,rfl⟩
    rw[←TO]
    have l3:PermIn mid b d2 d3∧SortedIn lt mid b d3:=by
     rw[TO]
     by_cases cc:mid<e∧e<b
     ·rw[if_pos cc];exact qE hS k mid e b d2 (by omega) cc.1 cc.2 (by omega) t3' t4'
     ·rw[if_neg cc];refine⟨permIn_refl _ _ _,?_⟩
      by_cases q:e=mid
      ·rw[←q];exact t4'
      ·have:e=b:=by omega
       rw[←this];exact t3'
    have ak0:∀i j,a≤i→i<mid→mid≤j→j<b→lt d3[j]! d3[i]! =false:=by
     intro i j q1 q2 q3 q4;exact WI d2 d3 mid b a mid (fun x y=>lt x y=false) (by omega) l3.1 (.inr (Nat.le_refl _)) (fun i j w1 w2 w3 w4=>akZ j i w3 w4 w1 w2) j i q3 q4 q1 q2
    have t5:SortedIn lt a mid d3:=by
     intro i j q1 q2 q3;rw[l3.1.2.1 i (by omega),l3.1.2.1 j (by omega)];exact l2.2 i j q1 q2 q3
    exact⟨permIn_trans _ _ _ a b p1 (permIn_trans _ _ _ a b (permIn_mono _ _ a mid a b (Nat.le_refl _) (by omega) (by omega) l2.1) (permIn_mono _ _ mid b a b (by omega) (Nat.le_refl _) (by omega) l3.1)),
     Jy hS (d:=d) h3 (by omega) (by omega) t5 l3.2 ak0⟩
theorem Gi(hS:SWO lt)(n:Nat)(d:Array α)(hn:n=d.size)(h:n≤64):PermIn 0 n d (nX lt n d)∧SortedIn lt 0 n (nX lt n d):=by
 unfold nX
 by_cases c1:n<20
 ·rw[if_pos c1];exact insertionSort_holds hS d 0 n (Nat.zero_le _) (by omega)
 ·rw[if_neg c1]
  by_cases c2:n=20
  ·rw[if_pos c2];subst c2;have l1:=insertionSort_holds hS d 0 20 (by omega) (by omega)
   have:insertionSort lt (insertionSort lt d 0 20) 20 20=insertionSort lt d 0 20:=by
    unfold insertionSort;rw[insOuter,if_neg (by omega)]
   rw[this];exact l1
  ·rw[if_neg c2];have l1:=insertionSort_holds hS d 0 20 (by omega) (by omega);have l2:=insertionSort_holds hS (insertionSort lt d 0 20) 20 n (by omega) (by rw[l1.1.1];omega)
   have s1:SortedIn lt 0 20 (insertionSort lt (insertionSort lt d 0 20) 20 n):=by
    intro i j q1 q2 q3;rw[l2.1.2.1 i (by omega),l2.1.2.1 j (by omega)];exact l1.2 i j q1 q2 q3
   have l3:=qE hS 64 0 20 n (insertionSort lt (insertionSort lt d 0 20) 20 n) (by omega) (by omega) (by omega) (by rw[l2.1.1,l1.1.1];omega) s1 l2.2;refine⟨?_,l3.2⟩;exact permIn_trans _ _ _ 0 n (permIn_mono _ _ 0 20 0 n (Nat.le_refl _) (by omega) (by omega) l1.1) (permIn_trans _ _ _ 0 n (permIn_mono _ _ 20 n 0 n (by omega) (Nat.le_refl _) (by rw[l1.1.1];omega) l2.1) l3.1)
end Go.Proofs.YtmhdcgmfbjcndaaGreatDoor.Ay
