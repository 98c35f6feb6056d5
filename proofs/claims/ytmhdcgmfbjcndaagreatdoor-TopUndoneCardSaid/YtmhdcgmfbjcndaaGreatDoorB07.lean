import Derived.Test.YtmhdcgmfbjcndaaGreatDoorB06
import Derived.Laws.RangeAny
import Derived.Laws.ResultCell
import Derived.Lib.OthersKept
import Derived.Lib.RuneCount
import Derived.Lib.SliceRun
import Derived.WalkSmall
set_option linter.unusedVariables false
set_option linter.unusedSimpArgs false
set_option maxRecDepth 100000
set_option maxHeartbeats 8000000
namespace Go.Proofs.YtmhdcgmfbjcndaaGreatDoor.P
open Go.RowKit Go.Proofs.aa.ag Go.Proofs.aa.ao Go.Proofs.aa.ay
theorem qi.calls(w:World):
 Calls Tryz.prog 162 #[] w fun e w'=>e= .returned (.agg #[.int .i64 2,.int .i64 3,.int .i64 5,.int .i64 7,.int .i64 10,.int .i64 15])∧Below w.heap.size w w':=by
 go_enter Tryz.func162,Tryz.ntmps162;go_wp2;refine bodyPost_ret (results_cell_row (by rfl) _ _ w.heap.size 253 #[.int .i64 2,.int .i64 3,.int .i64 5,.int .i64 7,.int .i64 10,.int .i64 15] (0,0) _ rfl (aI w _) Tryz.underlying253 rfl (by kernel_rfl)) rfl ?_;exact⟨rfl,(Below.refl _ _).alloc (Nat.le_refl _) _⟩
theorem wb(i:Nat)(h:i<6)(w:World):(Instr.index 253 (.agg #[.int .i64 2,.int .i64 3,.int .i64 5,.int .i64 7,.int .i64 10,.int .i64 15]) (.int .i64 (i:Int))).run Tryz.prog w= .ok (.int .i64 (rd [2,3,5,7,10,15] i)) w:=by
 obtain h|h|h|h|h|h:i=0∨i=1∨i=2∨i=3∨i=4∨i=5:=by omega
 all_goals subst h;kernel_rfl
def fH.f:Option Int:=some 120
theorem fH.calls(r:Int)(w:World)(h:fH.f=some r):
 Calls Tryz.prog 186 #[] w fun e w'=>e= .returned (.int .i64 r)∧Below w.heap.size w w':=by
 obtain rfl:=Option.some.inj h;have i5:∀w:World,(Instr.index 253 (.agg #[.int .i64 2,.int .i64 3,.int .i64 5,.int .i64 7,.int .i64 10,.int .i64 15]) (.int .i64 5)).run Tryz.prog w= .ok (.int .i64 15) w:=fun w=>wb 5 (by omega) w;go_enter Tryz.func186,Tryz.ntmps186
 go_wp2_with(go_at_call 162;refine(qi.calls _).mono ?_;rintro e w' ⟨rfl,hb⟩)
 go_ret;exact⟨rfl,hb⟩
def dS.f(a0:Int):Option (Int×Int):=if 0≤a0∧a0<6 then some (rd [2,3,5,7,10,15] a0,0) else some (0,1)
theorem dS.calls(a0 r1 r2:Int)(w:World)(h:dS.f a0=some (r1,r2)):
 Calls Tryz.prog 161 #[.int .i64 a0] w fun e w'=>e= .returned (.tuple #[.int .i64 r1,.int .i64 r2])∧Below w.heap.size w w':=by
 unfold dS.f at h
 by_cases hc:0≤a0∧a0<6
 ·rw[if_pos hc] at h;simp only[Option.some.injEq,Prod.mk.injEq] at h;obtain⟨rfl,rfl⟩:=h;obtain⟨h0,h1⟩:=hc;obtain⟨i,rfl⟩:∃i:Nat,a0=i:=⟨a0.toNat,by omega⟩;have i5:=wb i (by omega);go_enter Tryz.func161,Tryz.ntmps161
  go_wp2_with(go_at_call 162;refine(qi.calls _).mono ?_;rintro e w' ⟨rfl,hb⟩)
  go_ret2;exact⟨rfl,hb⟩
 ·rw[if_neg hc] at h;simp only[Option.some.injEq,Prod.mk.injEq] at h;obtain⟨rfl,rfl⟩:=h
  by_cases h0:a0<0
  ·go_enter Tryz.func161,Tryz.ntmps161;go_wp2;go_ret2;exact⟨rfl,Below.refl _ _⟩
  ·have h1:6≤a0:=by omega
   clear hc;go_enter Tryz.func161,Tryz.ntmps161;go_wp2;go_ret2;exact⟨rfl,Below.refl _ _⟩
def cG(n:Int):Int:=if n≤16 then 0 else if n≤24 then 1 else if n≤40 then 2 else if n≤56 then 3 else if n≤80 then 4 else 5
def iv.f(a0:Int):Option (Int×Bool):=if 1≤a0∧a0≤120 then some (cG a0,true) else some (0,false)
def mL(k:Nat)(n:Int):Prop:=k<6∧(1≤k→16<n)∧(2≤k→24<n)∧(3≤k→40<n)∧(4≤k→56<n)∧(5≤k→80<n)
theorem Gw{n:Int}{k:Nat}(h:mL k n)(h2:n≤8*rd [2,3,5,7,10,15] k):cG n=k:=by
 obtain⟨h,a,b,c,d,e⟩:=h;unfold cG;obtain h|h|h|h|h|h:k=0∨k=1∨k=2∨k=3∨k=4∨k=5:=by omega
 all_goals subst h;simp [rd] at h2 a b c d e⊢;omega
theorem zg{n:Int}{k:Nat}(h:mL k n)(h2:¬n≤8*rd [2,3,5,7,10,15] k)(hn:n≤120):mL (k+1) n:=by
 obtain⟨h,a,b,c,d,e⟩:=h;unfold mL;obtain h|h|h|h|h|h:k=0∨k=1∨k=2∨k=3∨k=4∨k=5:=by omega
 all_goals subst h;simp [rd] at h2 a b c d e⊢;omega
theorem iv.calls(a0 r1:Int)(r2:Bool)(w:World)(h:iv.f a0=some (r1,r2)):
 Calls Tryz.prog 166 #[.int .i64 a0] w fun e w'=>e= .returned (.tuple #[.int .i64 r1,.bool r2])∧Below w.heap.size w w':=by
 unfold iv.f at h
 by_cases hc:1≤a0∧a0≤120
 ·rw[if_pos hc] at h;simp only[Option.some.injEq,Prod.mk.injEq] at h;obtain⟨rfl,rfl⟩:=h;obtain⟨h0,h1⟩:=hc;have hn:¬120<a0:=by omega
  go_enter Tryz.func166,Tryz.ntmps166
  go_wp2_with(first|(go_at_call 162;refine(qi.calls _).mono ?_;rintro e w2 ⟨rfl,iq⟩)|(go_at_call 186;refine(fH.calls 120 _ rfl).mono ?_;rintro e w1 ⟨rfl,im⟩))
  have hb:Below w.heap.size w w2:=im.trans (iq.mono im.size);clear im iq
  go_loop [14] (fun i=>∃k:Nat,i= .int .i64 k∧mL k a0) (fun i=>6-(intOf i).toNat)
  case atStart=>exact⟨0,rfl,by unfold mL;omega⟩
  case round=>
   obtain⟨k,rfl,hp⟩:=hrel;have hk:k<6:=hp.1;have i5:=wb k hk
   have SR:0≤rd [2,3,5,7,10,15] k∧rd [2,3,5,7,10,15] k≤15:=by
    obtain h|h|h|h|h|h:k=0∨k=1∨k=2∨k=3∨k=4∨k=5:=by omega
    all_goals subst h;simp [rd]
   by_cases hle:a0≤8*rd [2,3,5,7,10,15] k
   ·have HE:=ak (Gw hp hle);clear hp;go_wp2;go_ret2;exact⟨by rw[HE.1];rfl,hb⟩
   ·have HN:=ak (zg hp hle h1);clear hp;have atA:8*rd [2,3,5,7,10,15] k<a0:=by omega
    go_wp2
    go_round
    case rel=>exact⟨k+1,by go_num,HN.1⟩
    case measure=>simp [intOf];omega
 ·rw[if_neg hc] at h;simp only[Option.some.injEq,Prod.mk.injEq] at h;obtain⟨rfl,rfl⟩:=h
  by_cases h0:a0<1
  ·go_enter Tryz.func166,Tryz.ntmps166;go_wp2;go_ret2;exact⟨rfl,Below.refl _ _⟩
  ·have h1:120<a0:=by omega
   clear hc;go_enter Tryz.func166,Tryz.ntmps166
   go_wp2_with(go_at_call 186;refine(fH.calls 120 _ rfl).mono ?_;rintro e w1 ⟨rfl,im⟩)
   go_ret2;exact⟨rfl,im⟩
def dU.f(a0:Int):Option (Int×Int):=if 0≤a0∧a0<6 then some (28/rd [2,3,5,7,10,15] a0,0) else some (0,1)
theorem o9{a0:Int}(h:0≤a0∧a0<6):2≤rd [2,3,5,7,10,15] a0∧rd [2,3,5,7,10,15] a0≤15:=by
 obtain h|h|h|h|h|h:a0=0∨a0=1∨a0=2∨a0=3∨a0=4∨a0=5:=by omega
 all_goals subst h;simp [rd]
theorem dU.calls(a0 r1 r2:Int)(w:World)(h:dU.f a0=some (r1,r2)):
 Calls Tryz.prog 116 #[.int .i64 a0] w fun e w'=>e= .returned (.tuple #[.int .i64 r1,.int .i64 r2])∧Below w.heap.size w w':=by
 unfold dU.f at h
 by_cases hc:0≤a0∧a0<6
 ·rw[if_pos hc] at h;simp only[Option.some.injEq,Prod.mk.injEq] at h;obtain⟨rfl,rfl⟩:=h;have hw:dS.f a0=some (rd [2,3,5,7,10,15] a0,0):=by unfold dS.f;rw[if_pos hc]
  obtain⟨im,iq⟩:=o9 hc;have HW:=ak hw;have hz:¬rd [2,3,5,7,10,15] a0=0:=by omega
  clear hc hw;go_enter Tryz.func116,Tryz.ntmps116
  go_wp2_with(go_at_call 161;refine(dS.calls _ _ _ _ HW.1).mono ?_;rintro e w' ⟨rfl,hb⟩)
  go_ret2;exact⟨rfl,hb⟩
 ·rw[if_neg hc] at h;simp only[Option.some.injEq,Prod.mk.injEq] at h;obtain⟨rfl,rfl⟩:=h;have hw:dS.f a0=some (0,1):=by unfold dS.f;rw[if_neg hc]
  have HW:=ak hw;clear hc hw;go_enter Tryz.func116,Tryz.ntmps116
  go_wp2_with(go_at_call 161;refine(dS.calls _ _ _ _ HW.1).mono ?_;rintro e w' ⟨rfl,hb⟩)
  go_ret2;exact⟨rfl,hb⟩
def mM.f(a0 a1:Int):Option (Int×Int):=if(0≤a0∧a0<6)∧0≤a1∧a1<28/rd [2,3,5,7,10,15] a0 then some (4+a1*rd [2,3,5,7,10,15] a0,0) else some (0,1)
theorem mM.calls(a0 a1 r1 r2:Int)(w:World)(h:mM.f a0 a1=some (r1,r2)):
 Calls Tryz.prog 117 #[.int .i64 a0,.int .i64 a1] w fun e w'=>e= .returned (.tuple #[.int .i64 r1,.int .i64 r2])∧Below w.heap.size w w':=by
 unfold mM.f at h
 by_cases hc:0≤a0∧a0<6
 ·have hw:dU.f a0=some (28/rd [2,3,5,7,10,15] a0,0):=by unfold dU.f;rw[if_pos hc]
  have HW:=ak hw;obtain⟨im,iq⟩:=o9 hc
  by_cases h0:0≤a1
  ·by_cases h1:a1<28/rd [2,3,5,7,10,15] a0
   ·rw[if_pos ⟨hc,h0,h1⟩] at h;simp only[Option.some.injEq,Prod.mk.injEq] at h;obtain⟨rfl,rfl⟩:=h;have hd:28/rd [2,3,5,7,10,15] a0≤14:=Int.ediv_le_of_le_mul (by omega) (by omega)
    have hm:0≤a1*rd [2,3,5,7,10,15] a0∧a1*rd [2,3,5,7,10,15] a0≤14*15:=
     ⟨Int.mul_nonneg h0 (by omega),Int.mul_le_mul (by omega) iq (by omega) (by omega)⟩
    obtain⟨hm1,hm2⟩:=hm;obtain⟨h3,h4⟩:=hc;obtain⟨i,rfl⟩:∃i:Nat,a0=i:=⟨a0.toNat,by omega⟩;have i5:=wb i (by omega);clear hw hd;go_enter Tryz.func117,Tryz.ntmps117
    go_wp2_with(first|(go_at_call 162;refine(qi.calls _).mono ?_;rintro e w2 ⟨rfl,iq⟩)|(go_at_call 116;refine(dU.calls _ _ _ _ HW.1).mono ?_;rintro e w1 ⟨rfl,im⟩))
    go_ret2;exact⟨rfl,im.trans (iq.mono im.size)⟩
   ·rw[if_neg (fun z=>h1 z.2.2)] at h;simp only[Option.some.injEq,Prod.mk.injEq] at h;obtain⟨rfl,rfl⟩:=h;have h2:¬a1<0:=by omega
    have h3:28/rd [2,3,5,7,10,15] a0≤a1:=by omega
    clear hw hc h1 h0;go_enter Tryz.func117,Tryz.ntmps117
    go_wp2_with(go_at_call 116;refine(dU.calls _ _ _ _ HW.1).mono ?_;rintro e w1 ⟨rfl,im⟩)
    go_ret2;exact⟨rfl,im⟩
  ·rw[if_neg (fun z=>h0 z.2.1)] at h;simp only[Option.some.injEq,Prod.mk.injEq] at h;obtain⟨rfl,rfl⟩:=h;have h2:a1<0:=by omega
   clear hw hc h0;go_enter Tryz.func117,Tryz.ntmps117
   go_wp2_with(go_at_call 116;refine(dU.calls _ _ _ _ HW.1).mono ?_;rintro e w1 ⟨rfl,im⟩)
   go_ret2;exact⟨rfl,im⟩
 ·have hw:dU.f a0=some (0,1):=by unfold dU.f;rw[if_neg hc]
  have HW:=ak hw;rw[if_neg (fun z=>hc z.1)] at h;simp only[Option.some.injEq,Prod.mk.injEq] at h;obtain⟨rfl,rfl⟩:=h;clear hw hc;go_enter Tryz.func117,Tryz.ntmps117
  go_wp2_with(go_at_call 116;refine(dU.calls _ _ _ _ HW.1).mono ?_;rintro e w1 ⟨rfl,im⟩)
  go_ret2;exact⟨rfl,im⟩
def js.f(a0 a1:Int):Option (Int×Bool):=
 if a1≤9223372036854775807 then
  (if(0≤a0∧a0<6)∧4≤a1∧(a1-4)%rd [2,3,5,7,10,15] a0=0∧(a1-4)/rd [2,3,5,7,10,15] a0<28/rd [2,3,5,7,10,15] a0 then some ((a1-4)/rd [2,3,5,7,10,15] a0,true) else some (0,false))
 else none
theorem js.calls(a0 a1 r1:Int)(r2:Bool)(w:World)(h:js.f a0 a1=some (r1,r2)):
 Calls Tryz.prog 167 #[.int .i64 a0,.int .i64 a1] w fun e w'=>e= .returned (.tuple #[.int .i64 r1,.bool r2])∧Below w.heap.size w w':=by
 unfold js.f at h
 by_cases hm:a1≤9223372036854775807
 ·rw[if_pos hm] at h
  by_cases hc:0≤a0∧a0<6
  ·have hw:dS.f a0=some (rd [2,3,5,7,10,15] a0,0):=by unfold dS.f;rw[if_pos hc]
   obtain⟨im,iq⟩:=o9 hc;generalize rd [2,3,5,7,10,15] a0=u at hw h im iq;have HW:=ak hw;clear hw
   by_cases h4:4≤a1
   ·have hz:¬u=0:=by omega
    have vn:((u:Int)==0)=false:=beq_eq_false_iff_ne.2 hz;have ht:Int.tdiv 28 u=28/u:=Int.tdiv_eq_ediv_of_nonneg (by omega);have ht2:Int.tdiv (a1-4) u=(a1-4)/u:=Int.tdiv_eq_ediv_of_nonneg (by omega);have ht3:Int.tmod (a1-4) u=(a1-4)%u:=Int.tmod_eq_emod_of_nonneg (by omega);have hs:0≤(a1-4)/u:=Int.ediv_nonneg (by omega) (by omega);have hs2:(a1-4)/u≤a1-4:=Int.ediv_le_self _ (by omega);have hs3:0≤28/u:=Int.ediv_nonneg (by omega) (by omega);have hs4:28/u≤28:=Int.ediv_le_self _ (by omega)
    by_cases hr:(a1-4)%u=0
    ·have zc:((a1-4)%u !=0)=false:=bne_eq_false_iff_eq.2 hr
     by_cases cX:(a1-4)/u<28/u
     ·rw[if_pos ⟨hc,h4,hr,cX⟩] at h;simp only[Option.some.injEq,Prod.mk.injEq] at h;obtain⟨rfl,rfl⟩:=h;clear hc hr;go_enter Tryz.func167,Tryz.ntmps167
      go_wp2_with(go_at_call 161;refine(dS.calls _ _ _ _ HW.1).mono ?_;rintro e w' ⟨rfl,hb⟩)
      go_quiet (fail);go_wp2;go_ret2;exact⟨rfl,cZ hb _⟩
     ·rw[if_neg (fun z=>cX z.2.2.2)] at h;simp only[Option.some.injEq,Prod.mk.injEq] at h;obtain⟨rfl,rfl⟩:=h;have F9:28/u≤(a1-4)/u:=by omega
      clear hc hr cX;go_enter Tryz.func167,Tryz.ntmps167
      go_wp2_with(go_at_call 161;refine(dS.calls _ _ _ _ HW.1).mono ?_;rintro e w' ⟨rfl,hb⟩)
      go_quiet (fail);go_wp2;go_ret2;exact⟨rfl,cZ hb _⟩
    ·rw[if_neg (fun z=>hr z.2.2.1)] at h;simp only[Option.some.injEq,Prod.mk.injEq] at h;obtain⟨rfl,rfl⟩:=h;have zc:((a1-4)%u !=0)=true:=bne_iff_ne.2 hr;clear hc hr;go_enter Tryz.func167,Tryz.ntmps167
     go_wp2_with(go_at_call 161;refine(dS.calls _ _ _ _ HW.1).mono ?_;rintro e w' ⟨rfl,hb⟩)
     go_quiet (fail);go_wp2;go_ret2;exact⟨rfl,cZ hb _⟩
   ·rw[if_neg (fun z=>h4 z.2.1)] at h;simp only[Option.some.injEq,Prod.mk.injEq] at h;obtain⟨rfl,rfl⟩:=h;have h5:a1<4:=by omega
    clear hc h4;go_enter Tryz.func167,Tryz.ntmps167
    go_wp2_with(go_at_call 161;refine(dS.calls _ _ _ _ HW.1).mono ?_;rintro e w' ⟨rfl,hb⟩)
    go_ret2;exact⟨rfl,hb⟩
  ·have hw:dS.f a0=some (0,1):=by unfold dS.f;rw[if_neg hc]
   have HW:=ak hw;rw[if_neg (fun z=>hc z.1)] at h;simp only[Option.some.injEq,Prod.mk.injEq] at h;obtain⟨rfl,rfl⟩:=h;clear hw hc;go_enter Tryz.func167,Tryz.ntmps167
   go_wp2_with(go_at_call 161;refine(dS.calls _ _ _ _ HW.1).mono ?_;rintro e w' ⟨rfl,hb⟩)
   go_ret2;exact⟨rfl,hb⟩
 ·rw[if_neg hm] at h;exact absurd h (by simp)
def bump(out:List eE):List eE:=out.set (out.length-1) ⟨(bU out ((out.length:Int)-1)).f0,(bU out ((out.length:Int)-1)).f1+1⟩
def AN(i:Nat)(k:Int)(st:List eE×Bool):List eE×Bool:=
 if k= -1 then(if st.2=true then(bump st.1,true) else(st.1++[⟨(i:Int),1⟩],true)) else(st.1,false)
def ph:Nat→List Int→List eE×Bool→List eE
 |_,[],st=>st.1
 |i,k::r,st=>ph (i+1) r (AN i k st)
structure mN (l0:List Int) (R:List eE) (i:Nat) (out:List eE) (b:Bool):Prop where
 hk:i≤l0.length
 hl:out.length≤i
 hb:b=true→0<out.length
 hf:∀s∈out,0≤s.f1∧s.f1≤i
 hw:ph i (l0.drop i) (out,b)=R
theorem Em{l:List Int}{i:Nat}(h:i<l.length):l.drop i=rd l (i:Int)::l.drop (i+1):=by
 rw[List.drop_eq_getElem_cons h]
 congr 1
 unfold rd;rw[Int.toNat_natCast,List.getD_eq_getElem?_getD,List.getElem?_eq_getElem h];rfl
theorem LF{l:List eE}{i:Int}(h0:0≤i)(h:i<l.length):bU l i∈l:=by
 unfold bU;rw[List.getD_eq_getElem?_getD,List.getElem?_eq_getElem (by omega)];exact List.getElem_mem _
theorem mN.no{l0:List Int}{R out:List eE}{i:Nat}{b:Bool}(h:mN l0 R i out b)(hi:i<l0.length)(hk:rd l0 (i:Int)≠-1):mN l0 R (i+1) out false:=by
 have hw:=h.hw;rw[Em hi] at hw;simp only[ph,AN] at hw;rw[if_neg hk] at hw;exact⟨hi,by have:=h.hl;omega,fun e=>Bool.noConfusion e,fun s hs=>by have:=h.hf s hs;omega,hw⟩
theorem mN.new{l0:List Int}{R out:List eE}{i:Nat}(h:mN l0 R i out false)(hi:i<l0.length)(hk:rd l0 (i:Int)= -1):mN l0 R (i+1) (out++[⟨(i:Int),1⟩]) true:=by
 have hw:=h.hw;rw[Em hi] at hw;simp only[ph,AN] at hw;rw[if_pos hk,if_neg (by decide)] at hw;refine⟨hi,by have:=h.hl;rw[List.length_append,List.length_singleton];omega,fun _=>by rw[List.length_append,List.length_singleton];omega,fun s hs=>?_,hw⟩;rcases List.mem_append.1 hs with hs|hs
 ·have:=h.hf s hs;omega
 ·rw[List.mem_singleton.1 hs];simp only;omega
theorem mN.more{l0:List Int}{R out:List eE}{i:Nat}(h:mN l0 R i out true)(hi:i<l0.length)(hk:rd l0 (i:Int)= -1):mN l0 R (i+1) (bump out) true:=by
 have hw:=h.hw;rw[Em hi] at hw;simp only[ph,AN] at hw;rw[if_pos hk,if_pos trivial] at hw;have h0:=h.hb rfl;refine⟨hi,by have:=h.hl;unfold bump;rw[List.length_set];omega,fun _=>by unfold bump;rw[List.length_set];exact h0,fun s hs=>?_,hw⟩;unfold bump at hs;rcases List.mem_or_eq_of_mem_set hs with hs|rfl
 ·have:=h.hf s hs;omega
 ·have:=h.hf _ (LF (l:=out) (i:=(out.length:Int)-1) (by omega) (by omega));simp only;omega
theorem mN.done{l0:List Int}{R out:List eE}{i:Nat}{b:Bool}(h:mN l0 R i out b)(hi:¬i<l0.length):out=R:=by
 have hw:=h.hw;rw[List.drop_of_length_le (by omega)] at hw;exact hw
def lI.f(l0:List Int):Option (List eE):=if l0.length≤8796093022200 then some (ph 0 l0 ([],false)) else none
theorem lI.calls(A0:Option Addr)(c0:Nat)(l0:List Int)(r:List eE)(w:World)(fS:Kd.C (Kd.int .i64) w A0 l0.length l0)(jr:l0.length≤c0)(h:lI.f l0=some r):
 Calls Tryz.prog 206 #[.slice A0 l0.length c0] w fun e w'=>∃kT:Value,e= .returned kT∧Kd.R zb 66 w' w.heap.size (fun _=>True) kT r∧Below w.heap.size w w':=by
 unfold lI.f at h
 by_cases hl:l0.length≤8796093022200
 ·rw[if_pos hl] at h;obtain rfl:=Option.some.inj h;have hu:=Tryz.underlying66;have jb:=ak fS;have GL:=ak (show mN l0 (ph 0 l0 ([],false)) 0 [] false from⟨Nat.zero_le _,Nat.le_refl _,(fun e=>Bool.noConfusion e),(fun s hs=>by cases hs),rfl⟩);generalize ph 0 l0 ([],false)=R at GL⊢;clear h fS jr;go_enter Tryz.func206,Tryz.ntmps206;go_wp2
  go_loopw [3,4,10] (fun v3 v4 v10 wc=>∃(i:Nat)(out:List eE)(b:Bool),v4= .bool b∧v10= .int .i64 i∧i≤l0.length∧ae (mN l0 R i out b)∧ae (Kd.R zb 66 wc w.heap.size (fun _=>True) v3 out)∧ae (Below w.heap.size w wc)) (fun _ _ v10 _=>l0.length-(intOf v10).toNat)
  case atStart=>exact⟨0,[],false,rfl,rfl,Nat.zero_le _,GL,⟨Kd.lN _ _ _ _ _⟩,⟨Below.refl _ _⟩⟩
  case round=>
   obtain⟨i,out,b,rfl,rfl,hi,HA,HO,HB⟩:=hrel
   by_cases cX:i<l0.length
   ·obtain⟨ad,e_,hx⟩:=Kd.nV (Kd.aj jb.1 HB.1) (i:Int) (by omega) (by omega);cases e_;rw[Int.toNat_natCast] at hx;have hol:=HA.1.hl
    by_cases hk:rd l0 (i:Int)= -1
    ·have e1:(rd l0 (i:Int)== -1)=true:=by rw[hk];rfl
     cases b with
     |false=>
      have HN:=ak (HA.1.new cX hk);clear HA hk;generalize rd l0 (i:Int)=kk at hx e1
      go_wp2_with((with_reducible refine dm (b:= .append) (xs:= #[.tmp 34,.tmp 37]) rfl ?_);at_builtin;go_loud (refine Kd.jO zb (w0:=w) w.heap.size rfl (.tmp 34) (.tmp 37) 60 66 (.agg #[(.int .i64 0),(.int .i64 0)]) 16 rfl Tryz.underlying60 Dy rfl (by decide) (by omega) u3 out (⟨(i:Int),1⟩:eE) [.int .i64 i,.int .i64 1] (fun _=>True) (fun _=>False) rfl rfl ?aP (fun _ hk=>hk.elim) ?aF ?aO ?aB ?aS ?aL ?_);(case aP=>exact vF _ _ _ (⟨(i:Int),1⟩:eE));(case aB=>exact bl);(case aF=>exact(fun _ _=>trivial));(case aO=>exact(ru HO));(case aS=>exact(aq bl));(case aL=>omega);intro v2 w2 ho hb hg dH;have FN:=ak ho;have nS:=ak hb;clear ho hb hg dH)
      go_roundw
      case rel=>exact⟨i+1,_,true,by first|rfl|(simp [e1];done),by go_num,cX,HN,FN,nS⟩
      case measure=>simp [intOf];omega
     |true=>
      have h0:=HA.1.hb rfl;have HN:=ak (HA.1.more cX hk);have aef:=HA.1.hf _ (LF (l:=out) (i:=(out.length:Int)-1) (by omega) (by omega));clear HA hk;generalize rd l0 (i:Int)=kk at hx e1;obtain⟨go1,co1,eo1,gb1,gl1,cl1,Lt⟩:=Kd.Aj HO.1 (by omega);subst eo1;have BW:IntKind.i64.wrap ((out.length:Int)-1)=(out.length:Int)-1:=by rw[bp];unfold wrap64;omega
      have b0:(0:Int)≤(out.length:Int)-1:=by omega
      have b1:(out.length:Int)-1<out.length:=by omega
      have b2:(1:Int)≤(out.length:Int):=by omega
      obtain⟨ce,oK,hM,lZ,Ja⟩:=Kd.O' HO.1 z66 ((out.length:Int)-1) b0 b1;obtain rfl:=M7 hM;have HP:=ak (Kd.Wx HO.1 ((out.length:Int)-1) b0 b1 (oU:=[.int .i64 ((bU out ((out.length:Int)-1)).f1+1)]) (j:=1) oK lZ (show 2≤2 from by decide) (x':=(⟨(bU out ((out.length:Int)-1)).f0,(bU out ((out.length:Int)-1)).f1+1⟩:eE)) (vF _ _ _ _) (fun _ hk=>hk));have tT:wr.cell? ⟨go1,((out.length:Int)-1).toNat*2+1,none⟩=some (.int .i64 (bU out ((out.length:Int)-1)).f1):=lZ 1 _ rfl;have hf1:wr.frozen? ⟨go1,((out.length:Int)-1).toNat*2+1,none⟩=false:=Ja 1;have Lu:=tT;have hf2:=hf1;rw[show((out.length:Int)-1).toNat=out.length-1 by omega] at Lu hf2;clear oK lZ Ja hM;generalize Qh:bU out ((out.length:Int)-1)=ls at tT Lu HP aef;have HLS:=ak Qh;clear Qh;go_wp2
      go_roundw
      case rel=>
       have hq:=HP.1.1;rw[show((out.length:Int)-1).toNat=out.length-1 by omega] at hq;refine⟨i+1,bump out,true,by first|rfl|(simp [e1];done),by go_num,cX,HN,⟨?_⟩,⟨HB.1.setCell gb1 _⟩⟩;unfold bump;rw[HLS.1];exact hq
      case measure=>simp [intOf];omega
    ·have e1:(rd l0 (i:Int)== -1)=false:=beq_eq_false_iff_ne.2 hk;have HN:=ak (HA.1.no cX hk);clear HA hk;generalize rd l0 (i:Int)=kk at hx e1;go_wp2
     go_roundw
     case rel=>exact⟨i+1,out,false,by first|rfl|(simp [e1];done),by go_num,cX,HN,HO,HB⟩
     case measure=>simp [intOf];omega
   ·obtain rfl:=HA.1.done cX;go_wp2;go_ret;exact⟨_,rfl,HO.1,HB.1⟩
 ·rw[if_neg hl] at h;cases h
def NF(c:Int):Bool:= !(decide (c≤32)||(decide (127≤c)&&decide (c≤160))||c==65533)
theorem CV.calls(c:Int)(b:Bool)(h:NF c=b)(w:World):
 Calls Tryz.prog 126 #[.int .i32 c] w fun e w'=>e= .returned (.bool b)∧w=w':=by
 unfold NF at h
 by_cases h1:c≤32
 ·obtain rfl:b=false:=by rw[←h];simp [h1]
  clear h;go_enter Tryz.func126,Tryz.ntmps126;go_wp2;go_ret;exact⟨rfl,rfl⟩
 ·by_cases h2:127≤c
  ·by_cases h3:c≤160
   ·obtain rfl:b=false:=by rw[←h];simp [h2,h3]
    clear h;go_enter Tryz.func126,Tryz.ntmps126;go_wp2;go_ret;exact⟨rfl,rfl⟩
   ·by_cases h4:c=65533
    ·obtain rfl:b=false:=by rw[←h];simp [h4]
     clear h;go_enter Tryz.func126,Tryz.ntmps126;go_wp2;go_ret;exact⟨rfl,rfl⟩
    ·obtain rfl:b=true:=by rw[←h];simp [h1,h3,h4]
     have h5:(c==65533)=false:=beq_eq_false_iff_ne.2 h4;clear h h4;go_enter Tryz.func126,Tryz.ntmps126;go_wp2;go_ret;exact⟨rfl,rfl⟩
  ·have h4:¬c=65533:=by omega
   obtain rfl:b=true:=by rw[←h];simp [h1,h2,h4]
   have h5:(c==65533)=false:=beq_eq_false_iff_ne.2 h4;clear h h4;go_enter Tryz.func126,Tryz.ntmps126;go_wp2;go_ret;exact⟨rfl,rfl⟩
theorem Cm(s:ByteArray)(pos:Nat)(h:pos<s.size):pos+(Utf8.decode s pos).2≤s.size:=by
 simp only[Utf8.decode]
 repeat' split
 all_goals simp_all
 all_goals omega
def j4(s:ByteArray):Nat→Nat→Bool
 |0,_=>true
 |d+1,pos=>if pos<s.size then NF (Utf8.decode s pos).1&&j4 s d (pos+(Utf8.decode s pos).2) else true
theorem AZ(s:ByteArray):∀(d pos:Nat),s.size≤pos+d→∀k,j4 s (d+k) pos=j4 s d pos:=by
 intro d
 induction d with
 |zero=>
  intro pos h k;cases k with
  |zero=>rfl
  |succ k=>rw[Nat.zero_add];simp only[j4];rw[if_neg (by omega)]
 |succ d ih=>
  intro pos h k;rw[show d+1+k=(d+k)+1 by omega];simp only[j4]
  by_cases hp:pos<s.size
  ·have hw:=Lib.decode_width_pos s pos hp;rw[if_pos hp,if_pos hp,ih _ (by omega)]
  ·rw[if_neg hp,if_neg hp]
def jv(s:ByteArray):Bool:=j4 s s.size 0&&(decide (s.size≠0)&&decide (s.size≤16))
def du.f(a0:ByteArray):Option Bool:=some (jv a0)
structure oD (s:ByteArray) (pos:Nat) (b:Bool):Prop where
 h:j4 s (s.size-pos) pos=b
theorem oD.next{s:ByteArray}{pos:Nat}{b:Bool}(h:oD s pos b)(hp:pos<s.size)(hm:NF (Utf8.decode s pos).1=true):oD s (pos+(Utf8.decode s pos).2) b:=by
 have h0:=h.h;have hw:=Lib.decode_width_pos s pos hp;rw[show s.size-pos=(s.size-pos-1)+1 by omega] at h0;simp only[j4] at h0;rw[if_pos hp,hm,Bool.true_and] at h0;refine⟨?_⟩;rw[←h0];have:=AZ s (s.size-(pos+(Utf8.decode s pos).2)) (pos+(Utf8.decode s pos).2) (by omega) (s.size-pos-1-(s.size-(pos+(Utf8.decode s pos).2)));rw[←this]
 congr 1
 omega
theorem oD.bad{s:ByteArray}{pos:Nat}{b:Bool}(h:oD s pos b)(hp:pos<s.size)(hm:NF (Utf8.decode s pos).1=false):b=false:=by
 have h0:=h.h;rw[show s.size-pos=(s.size-pos-1)+1 by omega] at h0;simp only[j4] at h0;rw[if_pos hp,hm,Bool.false_and] at h0;exact h0.symm
theorem oD.done{s:ByteArray}{pos:Nat}{b:Bool}(h:oD s pos b)(hp:¬pos<s.size):b=true:=by
 have h0:=h.h;rw[show s.size-pos=0 by omega] at h0;exact h0.symm
theorem du.calls(a0:ByteArray)(r:Bool)(w:World)(h:du.f a0=some r):
 Calls Tryz.prog 79 #[.string a0] w fun e w'=>e= .returned (.bool r)∧Below w.heap.size w w':=by
 unfold du.f jv at h;obtain rfl:=Option.some.inj h;clear h;generalize hb:j4 a0 a0.size 0=b;have HR:=ak (oD.mk (s:=a0) (pos:=0) (b:=b) (by rw[Nat.sub_zero];exact hb));clear hb;go_enter Tryz.func79,Tryz.ntmps79;go_wp2
 go_loopw [] (fun wr=>∃pos:Nat,pos≤a0.size∧ae (wr.heap[w.heap.size]? =some (.stringIter a0 pos))∧ae (Below w.heap.size w wr)∧ae (oD a0 pos b)) (fun wr=>a0.size-wr.iterPos w.heap.size)
 case atStart=>exact⟨0,Nat.zero_le _,⟨World.iter_heap _ _ _⟩,⟨ab (Below.refl _ _) _⟩,HR⟩
 case round=>
  obtain⟨pos,Up,HI,HB,HA⟩:=hrel
  by_cases hp:pos<a0.size
  ·have hnx:=fun ty=>Lib.run_next_any_at (P:=Tryz.prog) wr w.heap.size a0 pos ty HI.1 hp;have hw1:=Lib.decode_width_pos a0 pos hp;have TU:=Cm a0 pos hp;have J9:(wr.iterAt w.heap.size a0 (pos+(Utf8.decode a0 pos).2)).heap[w.heap.size]? =some (.stringIter a0 (pos+(Utf8.decode a0 pos).2)):=Lib.iterAt_heap wr _ a0 pos _ HI.1;have xQ:=Lib.below_iterAt HB.1 (Nat.le_refl _) a0 (pos+(Utf8.decode a0 pos).2);have Xl:wr.iterPos w.heap.size=pos:=iterPos_of HI.1;have Ui:=ak J9;have aey:=ak xQ;have HP0:=ak Xl;clear J9 xQ Xl;cases hm:NF (Utf8.decode a0 pos).1 with
   |true=>
    have HN:=ak (HA.1.next hp hm);have HM:=ak hm;clear hm HA
    go_wp2_with(go_at_call 126;refine(CV.calls _ _ HM.1 _).mono ?_;rintro e w' ⟨rfl,rfl⟩)
    go_roundw
    case rel=>exact⟨pos+(Utf8.decode a0 pos).2,TU,Ui,aey,HN⟩
    case measure=>
     have hq:(wr.iterAt w.heap.size a0 (pos+(Utf8.decode a0 pos).2)).iterPos w.heap.size=pos+(Utf8.decode a0 pos).2:=iterPos_of Ui.1;rw[hq,HP0.1];omega
   |false=>
    obtain rfl:=HA.1.bad hp hm;have HM:=ak hm;clear hm HA
    go_wp2_with(go_at_call 126;refine(CV.calls _ _ HM.1 _).mono ?_;rintro e w' ⟨rfl,rfl⟩)
    go_ret;exact⟨rfl,aey.1⟩
  ·have hnx:∀ty,(Instr.next (.pointer (some ⟨w.heap.size,0,none⟩)) true ty).run Tryz.prog wr=_:=fun ty=>Lib.run_next_end_at wr w.heap.size a0 pos ty HI.1 hp;obtain rfl:=HA.1.done hp;clear HA;have hlen:a0.toList.length=a0.size:=by rw[ByteArray.toList_eq,Array.length_toList];rfl
   by_cases hz:a0.size=0
   ·have hl:a0.toList=[]:=List.eq_nil_of_length_eq_zero (by omega);have Pm:a0.toList.isEmpty=true:=by rw[hl];rfl
    clear hlen;go_wp2;go_ret;exact⟨by simp [hz],HB.1⟩
   ·have Pm:a0.toList.isEmpty=false:=by
     cases hc:a0.toList with
     |nil=>rw[hc] at hlen;exact absurd hlen.symm hz
     |cons _ _=>rfl
    have HZ:=ak hz;clear hlen hz
    by_cases SX:a0.size≤16
    ·go_wp2;go_ret;exact⟨by have:=HZ.1;simp [this];omega,HB.1⟩
    ·go_wp2;go_ret;exact⟨by have:=HZ.1;simp [this];omega,HB.1⟩
theorem wm.calls(n s:ByteArray)(i j:Int)(b:Bool)(hb:(n.toList==s.toList)=b)(g:Nat)(w:World)(hg:w.heap[g]? =some (.cells #[.string s] 9 (0,0))):
 Calls Tryz.prog 128 #[.agg #[.string n,.int .i64 i,.int .i64 j],.pointer (some ⟨g,0,none⟩)] w fun e w'=>e= .returned (.bool b)∧Below w.heap.size w w':=by
 have hu:=Tryz.underlying58;have jr:w.cell? ⟨g,0,none⟩=some (.string s):=(ah hg 0).trans rfl;have cX:=aN hg;clear hg;go_enter Tryz.func128,Tryz.ntmps128;go_wp2;go_ret;exact⟨rfl,ab (Below.refl _ _) _⟩
def named(s:ByteArray)(x:dJ):Bool:=x.f0.toList==s.toList
def ry(l:List dJ)(s:ByteArray):Int:=match l.findIdx? (named s) with|some k=>(k:Int)|none=> -1
structure lV (l:List dJ) (s:ByteArray) (k:Nat):Prop where
 hk:k≤l.length
 h:∀x∈l.take k,named s x=false
theorem Uu{l:List dJ}{k:Nat}(h:k<l.length):l.take (k+1)=l.take k++[bK l k]:=by
 rw[List.take_succ_eq_append_getElem h]
 congr 2
 unfold bK;rw[Int.toNat_natCast,List.getD_eq_getElem?_getD,List.getElem?_eq_getElem h];rfl
theorem lV.next{l:List dJ}{s:ByteArray}{k:Nat}(h:lV l s k)(hk:k<l.length)(hn:named s (bK l k)=false):lV l s (k+1):=by
 refine⟨hk,fun x hx=>?_⟩;rw[Uu hk] at hx;rcases List.mem_append.1 hx with hx|hx
 ·exact h.h x hx
 ·rw[List.mem_singleton.1 hx];exact hn
theorem lV.J9{l:List dJ}{s:ByteArray}{k:Nat}(h:lV l s k)(hk:k<l.length)(hn:named s (bK l k)=true):ry l s=(k:Int):=by
 unfold ry;have hx:bK l k=l[k]:=by unfold bK;rw[Int.toNat_natCast,List.getD_eq_getElem?_getD,List.getElem?_eq_getElem hk];rfl
 have:l.findIdx? (named s)=some k:=by
  rw[List.findIdx?_eq_some_iff_getElem];refine⟨hk,by rw[←hx];exact hn,fun j hj=>?_⟩
  have hm:l[j]∈l.take k:=by
   rw[List.mem_take_iff_getElem];exact⟨j,by omega,rfl⟩
  simpa using h.h _ hm
 rw[this]
theorem lV.done{l:List dJ}{s:ByteArray}{k:Nat}(h:lV l s k)(hk:¬k<l.length):ry l s= -1:=by
 unfold ry
 have:l.findIdx? (named s)=none:=by
  rw[List.findIdx?_eq_none_iff];intro x hx;have:=h.h x (by rw[List.take_of_length_le (by omega)];exact hx);simpa using this
 rw[this]
theorem GX.calls(A0:Option Addr)(c0:Nat)(l0:List dJ)(s:ByteArray)(g:Nat)(w0 w:World)(fS:Kd.C gQ w0 A0 l0.length l0)(hg:w.heap[g]? =some (.cells #[.string s] 9 (0,0)))(hB:Below w0.heap.size w0 w)(F9:w0.heap.size≤g):
 Calls Tryz.prog 127 #[.slice A0 l0.length c0,.func (.func 128) #[] #[.pointer (some ⟨g,0,none⟩)]] w fun e w'=>e= .returned (.int .i64 (ry l0 s))∧Below w0.heap.size w0 w':=by
 have hu:=Tryz.underlying58;have HG:=ak hg;have jb:=ak fS;have HB:=ak hB;have OU:=fS.2.1;clear hg fS hB;go_enter Tryz.func127,Tryz.ntmps127;go_wp2
 go_loopw [9] (fun i wr=>∃k:Nat,i= .int .i64 k∧ae (lV l0 s k)∧ae (wr.heap[g]? =some (.cells #[.string s] 9 (0,0)))∧ae (Below w0.heap.size w0 wr)) (fun i _=>l0.length-(intOf i).toNat)
 case atStart=>exact⟨0,rfl,⟨by omega,by simp⟩,HG,HB⟩
 case round=>
  obtain⟨k,rfl,HN,HG,HB⟩:=hrel;have hk:=HN.1.hk
  by_cases cX:k<l0.length
  ·obtain⟨ad,e_,oe,oq,wj⟩:=nW (Kd.aj jb.1 HB.1) (k:Int) (by omega) (by omega);cases e_;rw[Int.toNat_natCast] at oe oq wj;cases hn:named s (bK l0 k) with
   |true=>
    have HE:=ak (HN.1.J9 cX hn);have HM:=ak (show((bK l0 k).f0.toList==s.toList)=true from hn);clear hn HN;generalize bK l0 (k:Int)=x at oe oq wj HM
    go_wp2_with(go_at_call 128;refine(wm.calls x.f0 s _ _ true HM.1 g _ (ar HG.1 _)).mono ?_;rintro e w2 ⟨rfl,iq⟩;have nS:=ak ((ab HB.1 _).trans (iq.mono (aq (ab HB.1 _))));clear iq)
    go_ret;exact⟨by rw[HE.1];rfl,nS.1⟩
   |false=>
    have HE:=ak (HN.1.next cX hn);have HM:=ak (show((bK l0 k).f0.toList==s.toList)=false from hn);clear hn HN;generalize bK l0 (k:Int)=x at oe oq wj HM
    go_wp2_with(go_at_call 128;refine(wm.calls x.f0 s _ _ false HM.1 g _ (ar HG.1 _)).mono ?_;rintro e w2 ⟨rfl,iq⟩;have nS:=ak ((ab HB.1 _).trans (iq.mono (aq (ab HB.1 _))));have TN:=ak (fe (ar HG.1 _) iq);clear iq)
    go_roundw
    case rel=>exact⟨k+1,by go_num,HE,TN,nS⟩
    case measure=>simp [intOf];omega
  ·have HE:=ak (HN.1.done cX);clear HN;go_wp2;go_ret;exact⟨by rw[HE.1];rfl,HB.1⟩
def kI.f(l0:List dJ)(a1:ByteArray):Option Int:=some (ry l0 a1)
theorem kI.calls(A0:Option Addr)(c0:Nat)(l0:List dJ)(a1:ByteArray)(r:Int)(w:World)(fS:Kd.C gQ w A0 l0.length l0)(jr:l0.length≤c0)(h:kI.f l0 a1=some r):
 Calls Tryz.prog 81 #[.slice A0 l0.length c0,.string a1] w fun e w'=>e= .returned (.int .i64 r)∧Below w.heap.size w w':=by
 have ON:∀(fn:Fn)(first cap:Array Value)(w:World),(Instr.makeFunc fn first cap).run Tryz.prog w= .ok (.func fn first cap) w:=fun _ _ _ _=>rfl;unfold kI.f at h;obtain rfl:=Option.some.inj h;have jb:=ak fS;clear h fS jr;go_enter Tryz.func81,Tryz.ntmps81
 go_wp2_with(go_at_call 127;refine(GX.calls A0 c0 l0 a1 w.heap.size w _ jb.1 (aI w _) (ab (Below.refl _ _) _) (Nat.le_refl _)).mono ?_;rintro e w2 ⟨rfl,iq⟩)
 go_ret;exact⟨rfl,iq⟩
def jh.f(l0:List dJ):Option (List dJ):=if l0.length<4398046511104 then some l0 else none
theorem jh.calls(A0:Option Addr)(c0:Nat)(l0 r:List dJ)(w:World)(fS:Kd.C gQ w A0 l0.length l0)(jr:l0.length≤c0)(h:jh.f l0=some r):
 Calls Tryz.prog 91 #[.slice A0 l0.length c0] w fun e w'=>∃kT:Value,e= .returned kT∧Kd.R gQ 58 w' w.heap.size (fun _=>True) kT r∧Below w.heap.size w w':=by
 unfold jh.f at h;split at h
 ·rename_i JM
  obtain rfl:=Option.some.inj h;have jb:=ak fS;have OU:=fS.2.1;cases A0 with
  |none=>
   have GC:l0=[]:=by
    cases l0 with
    |nil=>rfl
    |cons x l0=>obtain⟨ad,e,_⟩:=fS.2.2 (by simp);cases e
   subst GC;have vA:=fun w:World=>Lib.run_eql_slice_nil (P:=Tryz.prog) w 25 58 none 0 c0 0 0 Tryz.underlying25;clear fS jr h;go_enter Tryz.func91,Tryz.ntmps91;go_wp2;go_ret;exact⟨_,rfl,Kd.lN _ _ _ _ _,Below.refl _ _⟩
  |some ad=>
   have vA:=fun w:World=>Lib.run_eql_slice_nil (P:=Tryz.prog) w 25 58 (some ad) l0.length c0 0 0 Tryz.underlying25;clear fS jr h;have HB:=ak (Below.refl w.heap.size w);go_enter Tryz.func91,Tryz.ntmps91
   go_wp2_with(first|((with_reducible refine gd 5 ?_);refine Kd.uq gQ _ 58 ?hg (N:=5) ?hd (xs:=([]:List dJ)) (inner:=[]) (ok:=fun _=>True) (kc:=fun _=>True) ?hr ?hp (fun _ hk=>hk) trivial (Below.refl _ _) (Nat.le_refl _) (by simp) ?_;(case hd=>rfl);(case hg=>rfl);(case hr=>first|(go_simp;done)|(go_simp;rfl));(case hp=>exact(fg.none _ _));intro v1 w1 ho hb qh gY;clear qh gY;have HO:=ak ho;have kC:=ak hb;clear ho hb)|((with_reducible refine dm (b:= .append) (xs:= #[.tmp 5,.tmp 6]) rfl ?_);at_builtin;refine Kd.ep gQ (w0:=w) w.heap.size rfl (.tmp 5) (.tmp 6) 25 58 (.agg #[(.string ⟨#[]⟩),(.int .i64 0),(.int .i64 0)]) 32 rfl Tryz.underlying25 xB rfl (by decide) (by omega) v1 [] l0 _ _ _ (fun _=>True) (fun _=>False) rfl rfl ?aO ?aR (fun _ _ h=>h) (fun _ h=>h.elim) ?aF ?aB ?aS ?aL ?_;(case aR=>exact(Kd.aj jb.1 kC.1));(case aB=>exact kC.1);(case aF=>exact(fun _ _=>trivial));(case aO=>exact HO.1);(case aS=>exact(aq kC.1));(case aL=>simp;omega);intro v2 w2 xt iq uN vH;rw[List.nil_append] at xt;have FN:=ak xt;have nS:=ak iq;clear xt iq uN vH))
   go_ret;exact⟨_,rfl,FN.1,nS.1⟩
 ·cases h
end Go.Proofs.YtmhdcgmfbjcndaaGreatDoor.P
