import Derived.Test.YtmhdcgmfbjcndaaGreatDoorB08
import Derived.Lib.Hide
import Derived.Shelf.SlSortCmp.KitK
set_option linter.unusedVariables false
set_option linter.unusedSimpArgs false
set_option maxRecDepth 100000
set_option maxHeartbeats 8000000
namespace Go.Proofs.YtmhdcgmfbjcndaaGreatDoor.Ay
open Go.Shelf Go.RowKit Go.Lib Go.Sort Go.Proofs
structure uQ (P:Program) (k:Nat):Prop where
 mixed:P.follows .mixedOrders=true
 f129:P.funcs[129]? =some Tryz.f129
 f130:P.funcs[130]? =some Tryz.f130
 f165:P.funcs[165]? =some Tryz.f165
 f185:P.funcs[185]? =some Tryz.f185
 f83:P.funcs[83]? =some Tryz.f83
 t0:P.underlying 0=some (TypeDesc.tuple #[])
 a0:∀w,(isAgg 0).run P w= .ok false w
 z0:∀w,(Go.sizeOf 0).run P w= .ok 1 w
 v0:∀w,(zeroValue 0).run P w= .ok (Value.tuple #[]) w
 t3:P.underlying 3=some (TypeDesc.int IntKind.i64)
 a3:∀w,(isAgg 3).run P w= .ok false w
 z3:∀w,(Go.sizeOf 3).run P w= .ok 1 w
 v3:∀w,(zeroValue 3).run P w= .ok (Value.int IntKind.i64 0) w
 t4:P.underlying 4=some (TypeDesc.bool)
 a4:∀w,(isAgg 4).run P w= .ok false w
 z4:∀w,(Go.sizeOf 4).run P w= .ok 1 w
 v4:∀w,(zeroValue 4).run P w= .ok (Value.bool false) w
 tu:P.underlying 111=some (TypeDesc.int IntKind.u64)
 au:∀w,(isAgg 111).run P w= .ok false w
 zu:∀w,(Go.sizeOf 111).run P w= .ok 1 w
 ts:P.underlying 61=some (TypeDesc.slice 64)
 Py:∀w,(isAgg 61).run P w= .ok false w
 zs:∀w,(Go.sizeOf 61).run P w= .ok 1 w
 vs:∀w,(zeroValue 61).run P w= .ok (Value.slice none 0 0) w
 tf:P.underlying 105=some (TypeDesc.func #[64,64] #[3] false)
 af:∀w,(isAgg 105).run P w= .ok false w
 zf:∀w,(Go.sizeOf 105).run P w= .ok 1 w
 vf:∀w,(zeroValue 105).run P w= .ok Value.nilFunc w
 aE:∀w,(isAgg 64).run P w= .ok true w
 zE:∀w,(Go.sizeOf 64).run P w= .ok k w
variable {P:Program}{k:Nat}{α:Type}[Inhabited α]
theorem nY(L:uQ P k)(enc:α→List Value)(g:Nat)(cb:Array Value)(eS off cap a b n:Nat)(d0 d:Array α)(w0 w:World)
 (R:RowK enc k w0 eS off d0) (hs:d0.size=d.size) (S:SWK enc k w0 eS off d w) (ha:a+n≤d.size) (hb:b+n≤d.size) (oL:d.size<4611686018427387904):
 Calls P 185 #[.slice (some ⟨eS,off,none⟩) d.size cap,.int .i64 a,.int .i64 b,.int .i64 n,.func (.func g) #[] cb] w fun e w'=>e= .returned (.tuple #[])∧SWK enc k w0 eS off (fM a b n 0 d) w':=by
 have mixed:=L.mixed;have t0:=L.t0;have a0:=L.a0;have z0:=L.z0;have v0:=L.v0;have t3:=L.t3;have a3:=L.a3;have z3:=L.z3;have v3:=L.v3;have t4:=L.t4;have a4:=L.a4;have z4:=L.z4;have v4:=L.v4;have ts:=L.ts;have Py:=L.Py;have zs:=L.zs;have vs:=L.vs;have tf:=L.tf;have af:=L.af;have zf:=L.zf;have vf:=L.vf;have aE:=L.aE;have zE:=L.zE;have S0:Aside (SWK enc k w0 eS off d w):=S;clear S;go_enter L.f185,Tryz.ntmps185;go_wp2
 go_loopg [10] n (fun kx SJ wr=>∃(i:Nat)(dk:Array α),SJ= .int .i64 i∧i≤n∧n-i≤kx∧dk.size=d.size∧Aside (SWK enc k w0 eS off dk wr)∧fM a b (n-i) i dk=fM a b n 0 d)
 case atStart=>exact⟨0,d,rfl,by omega,by omega,rfl,S0,rfl⟩
 case round=>
  clear S0;obtain⟨i,dk,rfl,Tt,WJ,Dz,S1,heq⟩:=hrel
  by_cases cX:(i:Int)<(n:Int)
  ·have asX:i<n:=by omega
   have q1:IntKind.i64.wrap ((a:Int)+(i:Int))=((a+i:Nat):Int):=by rw[IntKind.wrap_i64];omega
   have q2:IntKind.i64.wrap ((b:Int)+(i:Int))=((b+i:Nat):Int):=by rw[IntKind.wrap_i64];omega
   have ea:(((a+i:Nat):Int)).toNat=a+i:=by omega
   have pa:(0:Int)≤((a+i:Nat):Int):=by omega
   have ba:((a+i:Nat):Int)<(d.size:Int):=by omega
   have ec:(((b+i:Nat):Int)).toNat=b+i:=by omega
   have pc:(0:Int)≤((b+i:Nat):Int):=by omega
   have bc:((b+i:Nat):Int)<(d.size:Int):=by omega
   have S2:Aside (SWK enc k w0 eS off (swp dk (a+i) (b+i)) ((wr.drew.setCells eS (off+(a+i)*k) (enc dk[b+i]!)).setCells eS (off+(b+i)*k) (enc dk[a+i]!))):=S1.out.swapped R (a+i) (b+i) (by omega) (by omega);have ady:=S1.out.ld1 R (by omega) P (a+i) (by omega);have adz:=S1.out.ld1 R (by omega) P (b+i) (by omega);have adA:=S1.out.st1 R (by omega) P (a+i) (by omega) dk[b+i]!;have Zx:=S1.out.st2 R (by omega) P (a+i) (b+i) (by omega) (by omega) dk[b+i]! dk[a+i]!;have ak1:(enc dk[a+i]!).length=k:=R.hk _;have ak2:(enc dk[b+i]!).length=k:=R.hk _;generalize enc dk[a+i]! =ak3 at S2 ady Zx ak1;generalize enc dk[b+i]! =ak4 at S2 adz adA Zx ak2;rw[show n-i=(n-(i+1))+1 by omega,fM] at heq;have Gj:(swp dk (a+i) (b+i)).size=d.size:=by rw[size_swp];exact Dz
   generalize swp dk (a+i) (b+i)=dk2 at S2 heq Gj;have HE:=Lib.hid heq;clear S1 heq hs ha hb
   go_wp2_with fail
   go_big_region_o
   clear ady adz adA Zx;generalize(wr.drew.setCells eS (off+(a+i)*k) ak4).setCells eS (off+(b+i)*k) ak3=w2 at S2⊢;go_wp2;go_roundg (n-(i+1))
   case measure=>omega
   case rel=>exact⟨i+1,dk2,by go_num,by omega,Nat.le_refl _,Gj,S2,HE.out⟩
  ·go_wp2
   go_end0
   refine⟨rfl,?_⟩;rw[show n-i=0 by omega,fM] at heq;rw[←heq];exact S1.out
theorem DE(L:uQ P k)(enc:α→List Value)(g:Nat)(cb:Array Value)(eS off cap a m b:Nat)(d0 d:Array α)(w0 w:World)
 (R:RowK enc k w0 eS off d0) (hs:d0.size=d.size) (S:SWK enc k w0 eS off d w) (ha:a<m) (hm:m<b) (hb:b≤d.size) (oL:d.size<4611686018427387904):
 Calls P 165 #[.slice (some ⟨eS,off,none⟩) d.size cap,.int .i64 a,.int .i64 m,.int .i64 b,.func (.func g) #[] cb] w fun e w'=>e= .returned (.tuple #[])∧SWK enc k w0 eS off (rotate a m b d) w':=by
 have mixed:=L.mixed;have t0:=L.t0;have a0:=L.a0;have z0:=L.z0;have v0:=L.v0;have t3:=L.t3;have a3:=L.a3;have z3:=L.z3;have v3:=L.v3;have t4:=L.t4;have a4:=L.a4;have z4:=L.z4;have v4:=L.v4;have ts:=L.ts;have Py:=L.Py;have zs:=L.zs;have vs:=L.vs;have tf:=L.tf;have af:=L.af;have zf:=L.zf;have vf:=L.vf;have asY:∀args w,(callFunc 185 args).run P w= .ok (.enter 185 args) w:=enters_of L.f185 (by kernel_rfl) rfl;have S0:Aside (SWK enc k w0 eS off d w):=S;clear S;go_enter L.f165,Tryz.ntmps165;go_wp2
 go_loopg [10,11] (b-a) (fun kx SJ s11 wr=>∃(i j f:Nat)(dk:Array α),SJ= .int .i64 i∧s11= .int .i64 j∧0<i∧0<j∧i≤m-a∧m+j≤b∧i+j≤kx∧i+j≤f∧dk.size=d.size∧Aside (SWK enc k w0 eS off dk wr)∧Hid (qQ m f i j dk=rotate a m b d))
 case atStart=>exact⟨m-a,b-m,b-a,d,by go_num,by go_num,by omega,by omega,by omega,by omega,by omega,by omega,rfl,S0,rfl⟩
 case round=>
  clear S0;obtain⟨i,j,f,dk,rfl,rfl,td,hj0,hia,hjb,WJ,hf,Dz,S1,HE⟩:=hrel;obtain⟨f,rfl⟩:∃f',f=f'+1:=⟨f-1,by omega⟩;have q1:((m:Int)-(i:Int))=((m-i:Nat):Int):=by omega
  by_cases c1:i=j
  ·subst c1;have hc:∀w,SWK enc k w0 eS off dk w→_:=fun w S=>nY L enc g cb eS off cap (m-i) m i d0 dk w0 w R (by omega) S (by omega) (by omega) (by omega);rw[Dz] at hc;have HC:Aside _:=hc
   go_wp2_with(go_at_fn 185;refine(HC.out _ S1.out).mono ?_;rintro e w1 ⟨rfl,S2⟩)
   go_end0
   refine⟨rfl,?_⟩;have:=HE.out;rw[qQ,if_pos rfl] at this;rw[←this];exact S2
  ·have c1z:¬((i:Int)=(j:Int)):=by omega
   by_cases c2:j<i
   ·have OO:(j:Int)<(i:Int):=by omega
    have hc:∀w,SWK enc k w0 eS off dk w→_:=fun w S=>nY L enc g cb eS off cap (m-i) m j d0 dk w0 w R (by omega) S (by omega) (by omega) (by omega);rw[Dz] at hc;have HC:Aside _:=hc;clear c1 c2
    go_wp2_with(go_at_fn 185;refine(HC.out _ S1.out).mono ?_;rintro e w1 ⟨rfl,S2⟩;have S3:Aside _:=S2;clear S2)
    go_roundg (i-j+j)
    case measure=>omega
    case rel=>
     refine⟨i-j,j,f,_,by go_num,rfl,by omega,hj0,by omega,hjb,by omega,by omega,?_,S3,?_⟩
     ·rw[fK];exact Dz
     ·show _=_;have:=HE.out;rw[qQ,if_neg (by omega),if_pos (by omega)] at this;exact this
   ·have OO:¬(j:Int)<(i:Int):=by omega
    have q2:((m:Int)+(j:Int)-(i:Int))=((m+j-i:Nat):Int):=by omega
    have hc:∀w,SWK enc k w0 eS off dk w→_:=fun w S=>nY L enc g cb eS off cap (m-i) (m+j-i) i d0 dk w0 w R (by omega) S (by omega) (by omega) (by omega);rw[Dz] at hc;have HC:Aside _:=hc;clear c1 c2
    go_wp2_with(go_at_fn 185;refine(HC.out _ S1.out).mono ?_;rintro e w1 ⟨rfl,S2⟩;have S3:Aside _:=S2;clear S2)
    go_roundg (i+(j-i))
    case measure=>omega
    case rel=>
     refine⟨i,j-i,f,_,rfl,by go_num,td,by omega,hia,by omega,by omega,by omega,?_,S3,?_⟩
     ·rw[fK];exact Dz
     ·show _=_;have:=HE.out;rw[qQ,if_neg (by omega),if_neg (by omega)] at this;exact this
end Go.Proofs.YtmhdcgmfbjcndaaGreatDoor.Ay
namespace Go.Proofs.YtmhdcgmfbjcndaaGreatDoor.Ay
open Go.Shelf Go.RowKit Go.Lib Go.Sort Go.Proofs
variable {P:Program}{k:Nat}{α:Type}[Inhabited α]
theorem JC(L:uQ P k)(enc:α→List Value)(cf:α→α→Int)(g:Nat)(cb:Array Value)(eS off cap a m b:Nat)(d0 d:Array α)(w0 w:World)
 (eg:∀args w,(callFunc g args).run P w= .ok (.enter g args) w) (sc:CmpLays P g cb enc k cf eS off d0.size w0)
 (R:RowK enc k w0 eS off d0) (hs:d0.size=d.size) (S:SWK enc k w0 eS off d w) (ha:m=a+1) (hm:m<b) (hb:b≤d.size) (oL:d.size<1000000):
 Calls P 130 #[.slice (some ⟨eS,off,none⟩) d.size cap,.int .i64 a,.int .i64 m,.int .i64 b,.func (.func g) #[] cb] w fun e w'=>e= .returned (.tuple #[])∧SWK enc k w0 eS off (og (bs (fun h=>ltOf cf d[h]! d[a]!) b m b-1-a) a d) w':=by
 have mixed:=L.mixed;have t0:=L.t0;have a0:=L.a0;have z0:=L.z0;have v0:=L.v0;have t3:=L.t3;have a3:=L.a3;have z3:=L.z3;have v3:=L.v3;have t4:=L.t4;have a4:=L.a4;have z4:=L.z4;have v4:=L.v4;have ts:=L.ts;have Py:=L.Py;have zs:=L.zs;have vs:=L.vs;have tf:=L.tf;have af:=L.af;have zf:=L.zf;have vf:=L.vf;have tu:=L.tu;have au:=L.au;have zu:=L.zu;have aE:=L.aE;have zE:=L.zE;have HC:Aside _:=sc;have HS:=Lib.hid hs.symm;have S0:Aside (SWK enc k w0 eS off d w):=S;have hma:((m:Int)-(a:Int))=1:=by omega
 have as3:a<m:=by omega
 have HA:=Lib.hid ha;clear S sc hs ha;go_enter L.f130,Tryz.ntmps130;go_wp2
 go_loopg [10,11] (b-m) (fun kx sI sJ wr=>∃(i j f:Nat),sI= .int .i64 i∧sJ= .int .i64 j∧m≤i∧i≤j∧j≤b∧j-i≤kx∧j-i≤f∧Aside (SWK enc k w0 eS off d wr)∧Hid (bs (fun h=>ltOf cf d[h]! d[a]!) f i j=bs (fun h=>ltOf cf d[h]! d[a]!) b m b))
 case atStart=>exact⟨m,b,b,by go_num,by go_num,Nat.le_refl _,by omega,Nat.le_refl _,by omega,by omega,S0,rfl⟩
 case round=>
  clear S0;obtain⟨i,j,f,rfl,rfl,hi,YV,hj,WJ,hf,S1,HE⟩:=hrel
  by_cases c:i<j
  ·have cz:(i:Int)<(j:Int):=by omega
   have ex:(((i:Int)+(j:Int))/2).toNat=(i+j)/2:=by omega
   have px:(0:Int)≤((i:Int)+(j:Int))/2:=by omega
   have bx:((i:Int)+(j:Int))/2<(d.size:Int):=by omega
   have ey:((a:Int)).toNat=a:=by omega
   have py:(0:Int)≤(a:Int):=by omega
   have by_:(a:Int)<(d.size:Int):=by omega
   have lx:=S1.out.ld R HS.out P ((i+j)/2) (by omega);have ly:=S1.out.ld R HS.out P a (by omega);have hc:=S1.out.cmp HC.out HS.out d[(i+j)/2]! d[a]!;obtain⟨vx,OP⟩:∃x,x=d[(i+j)/2]! :=⟨_,rfl⟩;obtain⟨vy,Pz⟩:∃x,x=d[a]! :=⟨_,rfl⟩;rw[←OP] at lx hc;rw[←Pz] at ly hc;have HV:Hid (vx=d[(i+j)/2]!∧vy=d[a]!):=⟨OP,Pz⟩;clear OP Pz;obtain⟨f,rfl⟩:∃f',f=f'+1:=⟨f-1,by omega⟩
   by_cases SM:cf vx vy<0
   ·go_wp2_with fail
    go_quiet_grown (first|(go_at_fn g;refine Calls.grown_of (hc _ _)))
    have S2:Aside (SWK enc k w0 eS off d (grow (wr.drewN nq) osq)):=S1.out.grown nq osq;clear lx ly hc S1;generalize grow (wr.drewN nq) osq=w2 at S2⊢;go_wp2;go_roundg (j-((i+j)/2+1))
    case measure=>omega
    case rel=>
     refine⟨(i+j)/2+1,j,f,by go_num,by go_num,by omega,by omega,by omega,by omega,by omega,S2,?_⟩;have:=HE.out;rw[bs,if_pos c] at this;show _=_;rw[←this,if_pos (show ltOf cf d[(i+j)/2]! d[a]! =true from by rw[←HV.out.1,←HV.out.2];simp [ltOf,SM])]
   ·go_wp2_with fail
    go_quiet_grown (first|(go_at_fn g;refine Calls.grown_of (hc _ _)))
    have S2:Aside (SWK enc k w0 eS off d (grow (wr.drewN nq) osq)):=S1.out.grown nq osq;clear lx ly hc S1;generalize grow (wr.drewN nq) osq=w2 at S2⊢;go_wp2;go_roundg ((i+j)/2-i)
    case measure=>omega
    case rel=>
     refine⟨i,(i+j)/2,f,by go_num,by go_num,by omega,by omega,by omega,by omega,by omega,S2,?_⟩;have:=HE.out;rw[bs,if_pos c] at this;show _=_;rw[←this,if_neg (show¬(ltOf cf d[(i+j)/2]! d[a]! =true) from by rw[←HV.out.1,←HV.out.2];simp [ltOf,SM])]
  ·have cz:¬(i:Int)<(j:Int):=by omega
   have HI:Hid (i=bs (fun h=>ltOf cf d[h]! d[a]!) b m b):=by
    show _=_;rw[←HE.out];cases f with
    |zero=>rfl
    |succ f=>rw[bs,if_neg c]
   have S0:=S1;clear HE S1;go_wp2
   go_loopg [13] (i-a) (fun kx sK wr=>∃(q:Nat)(dk:Array α),sK= .int .i64 q∧a≤q∧i-q≤kx∧dk.size=d.size∧Aside (SWK enc k w0 eS off dk wr)∧Hid (og (i-1-q) q dk=og (i-1-a) a d))
   case atStart=>exact⟨a,d,rfl,Nat.le_refl _,Nat.le_refl _,rfl,S0,rfl⟩
   case round=>
    clear S0 WJ;obtain⟨q,dk,rfl,haq,WJ,Dz,S1,HE⟩:=hrel
    by_cases c2:q<i-1
    ·have OO:(q:Int)<(i:Int)-1:=by omega
     have ex:((q:Int)).toNat=q:=by omega
     have px:(0:Int)≤(q:Int):=by omega
     have bx:(q:Int)<(d.size:Int):=by omega
     have ey:((q:Int)+1).toNat=q+1:=by omega
     have py:(0:Int)≤(q:Int)+1:=by omega
     have by_:(q:Int)+1<(d.size:Int):=by omega
     have S2:Aside (SWK enc k w0 eS off (swp dk q (q+1)) ((wr.drew.setCells eS (off+q*k) (enc dk[q+1]!)).setCells eS (off+(q+1)*k) (enc dk[q]!))):=S1.out.swapped R q (q+1) (by omega) (by omega);have la:=S1.out.ld1 R (Dz.trans HS.out) P q (by omega);have lb:=S1.out.ld1 R (Dz.trans HS.out) P (q+1) (by omega);have sa:=S1.out.st1 R (Dz.trans HS.out) P q (by omega) dk[q+1]!;have sb:=S1.out.st2 R (Dz.trans HS.out) P q (q+1) (by omega) (by omega) dk[q+1]! dk[q]!;have na:(enc dk[q]!).length=k:=R.hk _;have nb:(enc dk[q+1]!).length=k:=R.hk _;generalize enc dk[q]! =cI at S2 la sb na;generalize enc dk[q+1]! =cJ at S2 lb sa sb nb;have Gj:(swp dk q (q+1)).size=d.size:=by rw[size_swp];exact Dz
     have TP:Hid (og (i-1-(q+1)) (q+1) (swp dk q (q+1))=og (i-1-a) a d):=by
      have:=HE.out;rw[show i-1-q=(i-1-(q+1))+1 by omega,og] at this;exact this
     generalize swp dk q (q+1)=dk2 at S2 TP Gj;clear S1 HE hma HA
     go_wp2_with fail
     go_big_region_o
     clear la lb sa sb;generalize(wr.drew.setCells eS (off+q*k) cJ).setCells eS (off+(q+1)*k) cI=w2 at S2⊢;go_wp2;go_roundg (i-(q+1))
     case measure=>omega
     case rel=>exact⟨q+1,dk2,by go_num,by omega,Nat.le_refl _,Gj,S2,TP⟩
    ·have OO:¬(q:Int)<(i:Int)-1:=by omega
     go_wp2;refine bodyPost_ret (v:= .tuple #[]) (by simp [results,Tryz.results130,go_sem]) rfl ⟨rfl,?_⟩;have:=HE.out;rw[show i-1-q=0 by omega,og] at this;rw[←HI.out,←this];exact S1.out
theorem JE(L:uQ P k)(enc:α→List Value)(cf:α→α→Int)(g:Nat)(cb:Array Value)(eS off cap a m b:Nat)(d0 d:Array α)(w0 w:World)
 (eg:∀args w,(callFunc g args).run P w= .ok (.enter g args) w) (sc:CmpLays P g cb enc k cf eS off d0.size w0)
 (R:RowK enc k w0 eS off d0) (hs:d0.size=d.size) (S:SWK enc k w0 eS off d w) (ha:a+1<m) (hm:b=m+1) (hb:b≤d.size) (oL:d.size<1000000):
 Calls P 130 #[.slice (some ⟨eS,off,none⟩) d.size cap,.int .i64 a,.int .i64 m,.int .i64 b,.func (.func g) #[] cb] w fun e w'=>e= .returned (.tuple #[])∧SWK enc k w0 eS off (jc (m-bs (fun h=> !ltOf cf d[m]! d[h]!) b a m) m d) w':=by
 have mixed:=L.mixed;have t0:=L.t0;have a0:=L.a0;have z0:=L.z0;have v0:=L.v0;have t3:=L.t3;have a3:=L.a3;have z3:=L.z3;have v3:=L.v3;have t4:=L.t4;have a4:=L.a4;have z4:=L.z4;have v4:=L.v4;have ts:=L.ts;have Py:=L.Py;have zs:=L.zs;have vs:=L.vs;have tf:=L.tf;have af:=L.af;have zf:=L.zf;have vf:=L.vf;have tu:=L.tu;have au:=L.au;have zu:=L.zu;have aE:=L.aE;have zE:=L.zE;have HC:Aside _:=sc;have HS:=Lib.hid hs.symm;have S0:Aside (SWK enc k w0 eS off d w):=S;have hma:decide (((m:Int)-(a:Int))=1)=false:=decide_eq_false (by omega);have adC:(((m:Int)-(a:Int))==1)=false:=beq_eq_false_iff_ne.mpr (by omega);have hmb:((b:Int)-(m:Int))=1:=by omega
 have as5:m<b:=by omega
 have HM:=Lib.hid hm;clear S sc hs hm;go_enter L.f130,Tryz.ntmps130;go_wp2
 go_loopg [14,15] (m-a) (fun kx sI sJ wr=>∃(i j f:Nat),sI= .int .i64 i∧sJ= .int .i64 j∧a≤i∧i≤j∧j≤m∧j-i≤kx∧j-i≤f∧Aside (SWK enc k w0 eS off d wr)∧Hid (bs (fun h=> !ltOf cf d[m]! d[h]!) f i j=bs (fun h=> !ltOf cf d[m]! d[h]!) b a m))
 case atStart=>exact⟨a,m,b,by go_num,by go_num,Nat.le_refl _,by omega,Nat.le_refl _,by omega,by omega,S0,rfl⟩
 case round=>
  clear S0;obtain⟨i,j,f,rfl,rfl,hi,YV,hj,WJ,hf,S1,HE⟩:=hrel
  by_cases c:i<j
  ·have cz:(i:Int)<(j:Int):=by omega
   have ex:((m:Int)).toNat=m:=by omega
   have px:(0:Int)≤(m:Int):=by omega
   have bx:(m:Int)<(d.size:Int):=by omega
   have ey:(((i:Int)+(j:Int))/2).toNat=(i+j)/2:=by omega
   have py:(0:Int)≤((i:Int)+(j:Int))/2:=by omega
   have by_:((i:Int)+(j:Int))/2<(d.size:Int):=by omega
   have lx:=S1.out.ld R HS.out P m (by omega);have ly:=S1.out.ld R HS.out P ((i+j)/2) (by omega);have hc:=S1.out.cmp HC.out HS.out d[m]! d[(i+j)/2]!;obtain⟨vx,OP⟩:∃x,x=d[m]! :=⟨_,rfl⟩;obtain⟨vy,Pz⟩:∃x,x=d[(i+j)/2]! :=⟨_,rfl⟩;rw[←OP] at lx hc;rw[←Pz] at ly hc;have HV:Hid (vx=d[m]!∧vy=d[(i+j)/2]!):=⟨OP,Pz⟩;clear OP Pz;obtain⟨f,rfl⟩:∃f',f=f'+1:=⟨f-1,by omega⟩
   by_cases SM:cf vx vy<0
   ·go_wp2_with fail
    go_quiet_grown (first|(go_at_fn g;refine Calls.grown_of (hc _ _)))
    have S2:Aside (SWK enc k w0 eS off d (grow (wr.drewN nq) osq)):=S1.out.grown nq osq;clear lx ly hc S1;generalize grow (wr.drewN nq) osq=w2 at S2⊢;go_wp2;go_roundg ((i+j)/2-i)
    case measure=>omega
    case rel=>
     refine⟨i,(i+j)/2,f,by go_num,by go_num,by omega,by omega,by omega,by omega,by omega,S2,?_⟩;have:=HE.out;rw[bs,if_pos c] at this;show _=_;rw[←this,if_neg (show¬((!ltOf cf d[m]! d[(i+j)/2]!)=true) from by rw[←HV.out.1,←HV.out.2];simp [ltOf,SM])]
   ·have hd:=decide_eq_false SM;have zd:0≤cf vx vy:=by omega
    go_wp2_with fail
    go_quiet_grown (first|(go_at_fn g;refine Calls.grown_of (hc _ _)))
    have S2:Aside (SWK enc k w0 eS off d (grow (wr.drewN nq) osq)):=S1.out.grown nq osq;clear lx ly hc S1;generalize grow (wr.drewN nq) osq=w2 at S2⊢;go_wp2;go_roundg (j-((i+j)/2+1))
    case measure=>omega
    case rel=>
     refine⟨(i+j)/2+1,j,f,by go_num,by go_num,by omega,by omega,by omega,by omega,by omega,S2,?_⟩;have:=HE.out;rw[bs,if_pos c] at this;show _=_;rw[←this,if_pos (show(!ltOf cf d[m]! d[(i+j)/2]!)=true from by rw[←HV.out.1,←HV.out.2];simp [ltOf,SM])]
  ·have cz:¬(i:Int)<(j:Int):=by omega
   have HI:Hid (i=bs (fun h=> !ltOf cf d[m]! d[h]!) b a m):=by
    show _=_;rw[←HE.out];cases f with
    |zero=>rfl
    |succ f=>rw[bs,if_neg c]
   have S0:=S1;clear HE S1;go_wp2
   go_loopg [17] (m-i) (fun kx sK wr=>∃(q:Nat)(dk:Array α),sK= .int .i64 q∧i≤q∧q≤m∧q-i≤kx∧dk.size=d.size∧Aside (SWK enc k w0 eS off dk wr)∧Hid (jc (q-i) q dk=jc (m-i) m d))
   case atStart=>exact⟨m,d,rfl,by omega,Nat.le_refl _,Nat.le_refl _,rfl,S0,rfl⟩
   case round=>
    clear S0 WJ;obtain⟨q,dk,rfl,haq,hqm,WJ,Dz,S1,HE⟩:=hrel
    by_cases c2:i<q
    ·have OO:(i:Int)<(q:Int):=by omega
     have hqq:((q:Int)-1)=((q-1:Nat):Int):=by omega
     have ex:((q:Int)).toNat=q:=by omega
     have px:(0:Int)≤(q:Int):=by omega
     have bx:(q:Int)<(d.size:Int):=by omega
     have ey:(((q-1:Nat):Int)).toNat=q-1:=by omega
     have py:(0:Int)≤((q-1:Nat):Int):=by omega
     have by_:((q-1:Nat):Int)<(d.size:Int):=by omega
     have S2:Aside (SWK enc k w0 eS off (swp dk q (q-1)) ((wr.drew.setCells eS (off+q*k) (enc dk[q-1]!)).setCells eS (off+(q-1)*k) (enc dk[q]!))):=S1.out.swapped R q (q-1) (by omega) (by omega);have la:=S1.out.ld1 R (Dz.trans HS.out) P q (by omega);have lb:=S1.out.ld1 R (Dz.trans HS.out) P (q-1) (by omega);have sa:=S1.out.st1 R (Dz.trans HS.out) P q (by omega) dk[q-1]!;have sb:=S1.out.st2 R (Dz.trans HS.out) P q (q-1) (by omega) (by omega) dk[q-1]! dk[q]!;have na:(enc dk[q]!).length=k:=R.hk _;have nb:(enc dk[q-1]!).length=k:=R.hk _;generalize enc dk[q]! =cI at S2 la sb na;generalize enc dk[q-1]! =cJ at S2 lb sa sb nb;have Gj:(swp dk q (q-1)).size=d.size:=by rw[size_swp];exact Dz
     have TP:Hid (jc (q-1-i) (q-1) (swp dk q (q-1))=jc (m-i) m d):=by
      have:=HE.out;rw[show q-i=(q-1-i)+1 by omega,jc] at this;exact this
     generalize swp dk q (q-1)=dk2 at S2 TP Gj;clear S1 HE hma adC hmb HM
     go_wp2_with fail
     go_big_region_o
     clear la lb sa sb;generalize(wr.drew.setCells eS (off+q*k) cJ).setCells eS (off+(q-1)*k) cI=w2 at S2⊢;go_wp2;go_roundg (q-1-i)
     case measure=>omega
     case rel=>exact⟨q-1,dk2,by go_num,by omega,by omega,Nat.le_refl _,Gj,S2,TP⟩
    ·have OO:¬(i:Int)<(q:Int):=by omega
     go_wp2;refine bodyPost_ret (v:= .tuple #[]) (by simp [results,Tryz.results130,go_sem]) rfl ⟨rfl,?_⟩;have:=HE.out;rw[show q-i=0 by omega,jc] at this;rw[←HI.out,←this];exact S1.out
end Go.Proofs.YtmhdcgmfbjcndaaGreatDoor.Ay
namespace Go.Proofs.YtmhdcgmfbjcndaaGreatDoor.Ay
open Go.Shelf Go.RowKit Go.Lib Go.Sort Go.Proofs
variable {P:Program}{k:Nat}{α:Type}[Inhabited α]
def PA(P:Program)(k:Nat)(enc:α→List Value)(cf:α→α→Int)(g:Nat)(cb:Array Value)(eS off cap:Nat)(d0:Array α)(w0:World)(K:Nat):Prop:=
 ∀(a m b:Nat)(d:Array α)(w:World),b-a≤K→a<m→m<b→b≤d.size→d.size=d0.size→SWK enc k w0 eS off d w→
  Calls P 130 #[.slice (some ⟨eS,off,none⟩) d.size cap,.int .i64 a,.int .i64 m,.int .i64 b,.func (.func g) #[] cb] w fun e w'=>e= .returned (.tuple #[])∧SWK enc k w0 eS off (fJ (ltOf cf) K a m b d) w'
theorem JG(L:uQ P k)(enc:α→List Value)(cf:α→α→Int)(g:Nat)(cb:Array Value)(eS off cap a m b mid K:Nat)(d0 d:Array α)(w0 w:World)
 (eg:∀args w,(callFunc g args).run P w= .ok (.enter g args) w) (sc:CmpLays P g cb enc k cf eS off d0.size w0)
 (R:RowK enc k w0 eS off d0) (hs:d.size=d0.size) (S:SWK enc k w0 eS off d w) (ha:a+1<m) (hm:m+1<b) (hb:b≤d.size) (oL:d.size<1000000)
 (Jz:mid=(a+b)/2) (hK:b-a≤K+1) (ih:PA P k enc cf g cb eS off cap d0 w0 K):
 Calls P 130 #[.slice (some ⟨eS,off,none⟩) d.size cap,.int .i64 a,.int .i64 m,.int .i64 b,.func (.func g) #[] cb] w fun e w'=>e= .returned (.tuple #[])∧SWK enc k w0 eS off (fJ (ltOf cf) (K+1) a m b d) w':=by
 have mixed:=L.mixed;have t0:=L.t0;have a0:=L.a0;have z0:=L.z0;have v0:=L.v0;have t3:=L.t3;have a3:=L.a3;have z3:=L.z3;have v3:=L.v3;have t4:=L.t4;have a4:=L.a4;have z4:=L.z4;have v4:=L.v4;have ts:=L.ts;have Py:=L.Py;have zs:=L.zs;have vs:=L.vs;have tf:=L.tf;have af:=L.af;have zf:=L.zf;have vf:=L.vf;have tu:=L.tu;have au:=L.au;have zu:=L.zu;have aE:=L.aE;have zE:=L.zE;have TQ:∀args w,(callFunc 165 args).run P w= .ok (.enter 165 args) w:=enters_of L.f165 (by kernel_rfl) rfl;have as6:∀args w,(callFunc 130 args).run P w= .ok (.enter 130 args) w:=enters_of L.f130 (by kernel_rfl) rfl;have IH:Aside _:=ih;have HC:Aside _:=sc;have HS:=Lib.hid hs;have S0:Aside (SWK enc k w0 eS off d w):=S;have hma:decide (((m:Int)-(a:Int))=1)=false:=decide_eq_false (by omega);have adC:(((m:Int)-(a:Int))==1)=false:=beq_eq_false_iff_ne.mpr (by omega);have hmb:decide (((b:Int)-(m:Int))=1)=false:=decide_eq_false (by omega);have as7:(((b:Int)-(m:Int))==1)=false:=beq_eq_false_iff_ne.mpr (by omega);have hmz:((a:Int)+(b:Int))/2=(mid:Int):=by omega
 have hm1:2*mid≤a+b:=by omega
 have hm2:a+b<2*mid+2:=by omega
 obtain⟨lo,td,as8,as9,as',ata,hlh,hlb,CC,WK⟩:∃lo td:Nat,a≤lo∧lo+b≥mid+m∧td≤mid∧td≤m∧lo≤td∧td-lo≤b∧
  bs (fun c=> !ltOf cf d[mid+m-1-c]! d[c]!) b lo td=splitAt (ltOf cf) d a m b∧((mid<m∧(mid:Int)+m-b=lo∧td=mid)∨(m≤mid∧lo=a∧td=m)):=by
  by_cases c:mid<m
  ·exact⟨mid+m-b,mid,by omega,by omega,by omega,by omega,by omega,by omega,by unfold splitAt;rw[←Jz,if_pos c],.inl ⟨c,by omega,rfl⟩⟩
  ·exact⟨a,m,by omega,by omega,by omega,by omega,by omega,by omega,by unfold splitAt;rw[←Jz,if_neg c],.inr ⟨by omega,rfl,rfl⟩⟩
 obtain⟨s,OQ⟩:∃s,s=splitAt (ltOf cf) d a m b:=⟨_,rfl⟩;have hss:=vL (lt:=ltOf cf) d a m b (by omega) (by omega);rw[←OQ,←Jz] at hss;obtain⟨g1,g2,g3,g4,-,-⟩:=hss;obtain⟨d1,BT⟩:∃d1,d1=if s<m∧m<mid+m-s then rotate s m (mid+m-s) d else d:=⟨_,rfl⟩
 obtain⟨d2,zd⟩:∃d2,d2=if a<s∧s<mid then fJ (ltOf cf) K a s mid d1 else d1:=⟨_,rfl⟩
 obtain⟨d3,TO⟩:∃d3,d3=if mid<mid+m-s∧mid+m-s<b then fJ (ltOf cf) K mid (mid+m-s) b d2 else d2:=⟨_,rfl⟩
 have HG:Hid (fJ (ltOf cf) (K+1) a m b d=d3):=by
  show _=_;rw[TO,zd,BT,OQ,Jz,fJ,if_neg (by omega),if_neg (by omega)]
 rw[←OQ] at CC;have BU:=Lib.hid BT;have HD2:=Lib.hid zd;have HD3:=Lib.hid TO;have HSP:=Lib.hid CC;have HCA:=Lib.hid WK;clear S sc hs OQ BT zd TO CC WK ih Jz;go_enter L.f130,Tryz.ntmps130
 go_upto_if 140 with(fail)
 go_cut [20,21] (fun v20 v21 wc=>v20= .int .i64 lo∧v21= .int .i64 td∧wc=w)
 case first=>as_aux_lemma=>
  rcases HCA.out with⟨c1,c2,c3⟩|⟨c1,c2,c3⟩
  ·have c1z:(mid:Int)<(m:Int):=by omega
   go_wp2;go_meet
   case rel=>exact⟨by first|rfl|rw[c2],by first|rfl|rw[c3],rfl⟩
  ·have c1z:¬(mid:Int)<(m:Int):=by omega
   go_wp2;go_meet
   case rel=>exact⟨by first|rfl|rw[c2],by first|rfl|rw[c3],rfl⟩
 case rest=>
  obtain⟨rfl,rfl,rfl⟩:=hcut;go_wp2
  go_loopg [20,21] (td-lo) (fun kx sI sJ wr=>∃(i j f:Nat),sI= .int .i64 i∧sJ= .int .i64 j∧lo≤i∧i≤j∧j≤td∧j-i≤kx∧j-i≤f∧Aside (SWK enc k w0 eS off d wr)∧Hid (bs (fun c=> !ltOf cf d[mid+m-1-c]! d[c]!) f i j=s))
  case atStart=>exact⟨lo,td,b,rfl,rfl,Nat.le_refl _,hlh,Nat.le_refl _,by omega,hlb,S0,HSP.out⟩
  case round=>
   clear S0;obtain⟨i,j,f,rfl,rfl,hi,YV,hj,WJ,hf,S1,HE⟩:=hrel
   by_cases c:i<j
   ·have cz:(i:Int)<(j:Int):=by omega
    obtain⟨x,hx⟩:∃x,x=mid+m-1-(i+j)/2:=⟨_,rfl⟩;have qx:IntKind.i64.wrap ((mid:Int)+(m:Int)-1-((i:Int)+(j:Int))/2)=(x:Int):=by rw[IntKind.wrap_i64];omega
    have ex:((x:Nat):Int).toNat=x:=by omega
    have px:(0:Int)≤(x:Int):=by omega
    have bx:(x:Int)<(d.size:Int):=by omega
    have ey:(((i:Int)+(j:Int))/2).toNat=(i+j)/2:=by omega
    have py:(0:Int)≤((i:Int)+(j:Int))/2:=by omega
    have by_:((i:Int)+(j:Int))/2<(d.size:Int):=by omega
    have lx:=S1.out.ld R HS.out P x (by omega);have ly:=S1.out.ld R HS.out P ((i+j)/2) (by omega);have hc:=S1.out.cmp HC.out HS.out d[x]! d[(i+j)/2]!;obtain⟨vx,OP⟩:∃y,y=d[x]! :=⟨_,rfl⟩;obtain⟨vy,Pz⟩:∃y,y=d[(i+j)/2]! :=⟨_,rfl⟩;rw[←OP] at lx hc;rw[←Pz] at ly hc;rw[hx] at OP;have HV:Hid (vx=d[mid+m-1-(i+j)/2]!∧vy=d[(i+j)/2]!):=⟨OP,Pz⟩;clear OP Pz hx;obtain⟨f,rfl⟩:∃f',f=f'+1:=⟨f-1,by omega⟩
    by_cases SM:cf vx vy<0
    ·as_aux_lemma=>
     go_wp2_with fail
     go_quiet_grown (first|(go_at_fn g;refine Calls.grown_of (hc _ _)))
     have S2:Aside (SWK enc k w0 eS off d (grow (wr.drewN nq) osq)):=S1.out.grown nq osq;clear lx ly hc S1;generalize grow (wr.drewN nq) osq=w2 at S2⊢;go_wp2;go_roundg ((i+j)/2-i)
     case measure=>omega
     case rel=>
      refine⟨i,(i+j)/2,f,by go_num,by go_num,by omega,by omega,by omega,by omega,by omega,S2,?_⟩;have:=HE.out;rw[bs,if_pos c] at this;show _=_;rw[←this,if_neg (show¬((!ltOf cf d[mid+m-1-(i+j)/2]! d[(i+j)/2]!)=true) from by rw[←HV.out.1,←HV.out.2];simp [ltOf,SM])]
    ·as_aux_lemma=>
     have hd:=decide_eq_false SM;have zd:0≤cf vx vy:=by omega
     go_wp2_with fail
     go_quiet_grown (first|(go_at_fn g;refine Calls.grown_of (hc _ _)))
     have S2:Aside (SWK enc k w0 eS off d (grow (wr.drewN nq) osq)):=S1.out.grown nq osq;clear lx ly hc S1;generalize grow (wr.drewN nq) osq=w2 at S2⊢;go_wp2;go_roundg (j-((i+j)/2+1))
     case measure=>omega
     case rel=>
      refine⟨(i+j)/2+1,j,f,by go_num,by go_num,by omega,by omega,by omega,by omega,by omega,S2,?_⟩;have:=HE.out;rw[bs,if_pos c] at this;show _=_;rw[←this,if_pos (show(!ltOf cf d[mid+m-1-(i+j)/2]! d[(i+j)/2]!)=true from by rw[←HV.out.1,←HV.out.2];simp [ltOf,SM])]
   ·have cz:¬(i:Int)<(j:Int):=by omega
    have hI:i=s:=by
     rw[←HE.out];cases f with
     |zero=>rfl
     |succ f=>rw[bs,if_neg c]
    subst hI;obtain⟨e,he⟩:∃e,e=mid+m-i:=⟨_,rfl⟩;have hez:((mid:Int)+(m:Int)-(i:Int))=(e:Int):=by omega
    have heb:e≤b:=by omega
    have hme:mid≤e:=by omega
    have atd:m≤e:=by omega
    rw[←he] at BU HD3;have TP:=Lib.hid he;clear HE HSP he;obtain⟨B1,hB1⟩:∃B:Bool,B=decide (i<m∧m<e):=⟨_,rfl⟩;have kC:=Lib.hid hB1;clear hB1
    go_upto_region 39 with(fail)
    go_cut [185] (fun v wc=>v= .bool B1∧wc=wr)
    case first=>as_aux_lemma=>
     by_cases c2:i<m
     ·have OO:(i:Int)<(m:Int):=by omega
      by_cases c3:m<e
      ·have c3z:(m:Int)<(e:Int):=by omega
       go_wp2;go_meet
       case rel=>exact⟨by rw[kC.out,decide_eq_true ⟨c2,c3⟩],rfl⟩
      ·have c3z:¬(m:Int)<(e:Int):=by omega
       go_wp2;go_meet
       case rel=>exact⟨by rw[kC.out,decide_eq_false (fun h=>c3 h.2)],rfl⟩
     ·have OO:¬(i:Int)<(m:Int):=by omega
      go_wp2;go_meet
      case rel=>exact⟨by rw[kC.out,decide_eq_false (fun h=>c2 h.1)],rfl⟩
    obtain⟨rfl,rfl⟩:=hcut
    go_upto_if 185 with(fail)
    go_cut [191] (fun v wc=>Aside (SWK enc k w0 eS off d1 wc))
    case first=>as_aux_lemma=>
     cases B1 with
     |true=>
      have c1:i<m∧m<e:=of_decide_eq_true kC.out.symm;have hc:=DE L enc g cb eS off cap i m e d0 d w0 _ R HS.out.symm S1.out c1.1 c1.2 (by omega) (by omega);have BT:d1=rotate i m e d:=by rw[BU.out,if_pos c1]
      clear c1
      go_wp2_with(go_at_fn 165;refine hc.mono ?_;rintro e w1 ⟨rfl,S2⟩;have S3:Aside _:=S2;clear S2)
      go_meet
      case rel=>rw[BT];exact S3
     |false=>
      have BT:d1=d:=by rw[BU.out,if_neg (of_decide_eq_false kC.out.symm)]
      go_wp2;go_meet
      case rel=>rw[BT];exact S1
    case rest=>
     obtain⟨W2,rfl⟩:∃W2,W2=wc:=⟨_,rfl⟩;have S2:Aside (SWK enc k w0 eS off d1 W2):=hcut;clear S1 hcut
     have yZ:d1.size=d0.size:=by
      rw[BU.out];split
      ·unfold rotate;rw[uO];exact HS.out
      ·exact HS.out
     have WL:=Lib.hid yZ;have HSD:=Lib.hid (show d.size=d1.size from HS.out.trans yZ.symm);clear yZ;obtain⟨B2,hB2⟩:∃B:Bool,B=decide (a<i∧i<mid):=⟨_,rfl⟩;have nS:=Lib.hid hB2;clear hB2
     go_upto_region 41 with(fail)
     go_cut [199] (fun v wc=>v= .bool B2∧wc=W2)
     case first=>as_aux_lemma=>
      by_cases c2:a<i
      ·have OO:(a:Int)<(i:Int):=by omega
       by_cases c3:i<mid
       ·have c3z:(i:Int)<(mid:Int):=by omega
        go_wp2;go_meet
        case rel=>exact⟨by rw[nS.out,decide_eq_true ⟨c2,c3⟩],rfl⟩
       ·have c3z:¬(i:Int)<(mid:Int):=by omega
        go_wp2;go_meet
        case rel=>exact⟨by rw[nS.out,decide_eq_false (fun h=>c3 h.2)],rfl⟩
      ·have OO:¬(a:Int)<(i:Int):=by omega
       go_wp2;go_meet
       case rel=>exact⟨by rw[nS.out,decide_eq_false (fun h=>c2 h.1)],rfl⟩
     obtain⟨rfl,rfl⟩:=hcut
     go_upto_if 199 with(fail)
     go_cut [205] (fun v wc=>Aside (SWK enc k w0 eS off d2 wc))
     case first=>as_aux_lemma=>
      cases B2 with
      |true=>
       have c1:a<i∧i<mid:=of_decide_eq_true nS.out.symm;have hc:=IH.out a i mid d1 _ (by omega) c1.1 c1.2 (by rw[←HSD.out];omega) WL.out S2.out;rw[←HSD.out] at hc;have zd:d2=fJ (ltOf cf) K a i mid d1:=by rw[HD2.out,if_pos c1]
       clear c1
       go_wp2_with(go_at_fn 130;refine hc.mono ?_;rintro e w1 ⟨rfl,S3⟩;have S4:Aside _:=S3;clear S3)
       go_meet
       case rel=>rw[zd];exact S4
      |false=>
       have zd:d2=d1:=by rw[HD2.out,if_neg (of_decide_eq_false nS.out.symm)]
       go_wp2;go_meet
       case rel=>rw[zd];exact S2
     case rest=>
      have S3:Aside (SWK enc k w0 eS off d2 wc):=hcut;clear S2 hcut
      have vn:d2.size=d0.size:=by
       rw[HD2.out];split
       ·rw[nh];exact WL.out
       ·exact WL.out
      have HZ2:=Lib.hid vn;have adF:=Lib.hid (show d.size=d2.size from HS.out.trans vn.symm);clear vn
      by_cases c1:mid<e∧e<b
      ·obtain⟨c2,c3⟩:=c1;have OO:(mid:Int)<(e:Int):=by omega
       have c3z:(e:Int)<(b:Int):=by omega
       have hc:=IH.out mid e b d2 _ (by omega) c2 c3 (by rw[←adF.out];omega) HZ2.out S3.out;rw[←adF.out] at hc
       go_wp2_with(go_at_fn 130;refine hc.mono ?_;rintro e w1 ⟨rfl,S4⟩)
       go_end0
       refine⟨rfl,?_⟩;rw[HG.out,HD3.out,if_pos ⟨c2,c3⟩];exact S4
      ·have TO:d3=d2:=by rw[HD3.out,if_neg c1]
       by_cases c2:mid<e
       ·have OO:(mid:Int)<(e:Int):=by omega
        have c3z:¬(e:Int)<(b:Int):=by omega
        go_wp2
        go_end0
        refine⟨rfl,?_⟩;rw[HG.out,TO];exact S3.out
       ·have OO:¬(mid:Int)<(e:Int):=by omega
        go_wp2
        go_end0
        refine⟨rfl,?_⟩;rw[HG.out,TO];exact S3.out
theorem CD(L:uQ P k)(enc:α→List Value)(cf:α→α→Int)(g:Nat)(cb:Array Value)(eS off cap:Nat)(d0:Array α)(w0:World)
 (eg:∀args w,(callFunc g args).run P w= .ok (.enter g args) w) (sc:CmpLays P g cb enc k cf eS off d0.size w0)
 (R:RowK enc k w0 eS off d0) (oL:d0.size<1000000):∀K,PA P k enc cf g cb eS off cap d0 w0 K
 |0=>fun a m b d w h1 h2 h3 _ _ _=>by omega
 |K+1=>fun a m b d w h1 h2 h3 h4 h5 h6=>by
  by_cases c1:m-a=1
  ·rw[fJ,if_pos c1];exact JC L enc cf g cb eS off cap a m b d0 d w0 w eg sc R h5.symm h6 (by omega) h3 h4 (by omega)
  ·by_cases c2:b-m=1
   ·rw[fJ,if_neg c1,if_pos c2];exact JE L enc cf g cb eS off cap a m b d0 d w0 w eg sc R h5.symm h6 (by omega) (by omega) h4 (by omega)
   ·exact JG L enc cf g cb eS off cap a m b _ K d0 d w0 w eg sc R h5 h6 (by omega) (by omega) h4 (by omega) rfl h1 (CD L enc cf g cb eS off cap d0 w0 eg sc R oL K)
end Go.Proofs.YtmhdcgmfbjcndaaGreatDoor.Ay
