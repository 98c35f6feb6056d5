import Derived.Test.YtmhdcgmfbjcndaaGreatDoorB06
import Derived.Test.YtmhdcgmfbjcndaaGreatDoorB09
import Derived.Shelf.SlSortCmp.InsertionK
set_option linter.unusedVariables false
set_option linter.unusedSimpArgs false
set_option maxRecDepth 100000
set_option maxHeartbeats 8000000
namespace Go.Proofs.YtmhdcgmfbjcndaaGreatDoor.Ay
open Go.Shelf Go.RowKit Go.Lib Go.Sort Go.Proofs Go.Proofs.YtmhdcgmfbjcndaaGreatDoor.P Go.Proofs.aa.ag
theorem b5:uQ Tryz.prog 3 where
 mixed:=by kernel_rfl
 f129:=Tryz.func129
 f130:=Tryz.func130
 f165:=Tryz.func165
 f185:=Tryz.func185
 f83:=Tryz.func83
 t0:=by kernel_rfl
 a0:=fun _=>by kernel_rfl
 z0:=fun _=>by kernel_rfl
 v0:=fun _=>by kernel_rfl
 t3:=by kernel_rfl
 a3:=fun _=>by kernel_rfl
 z3:=fun _=>by kernel_rfl
 v3:=fun _=>by kernel_rfl
 t4:=by kernel_rfl
 a4:=fun _=>by kernel_rfl
 z4:=fun _=>by kernel_rfl
 v4:=fun _=>by kernel_rfl
 tu:=by kernel_rfl
 au:=fun _=>by kernel_rfl
 zu:=fun _=>by kernel_rfl
 ts:=by kernel_rfl
 Py:=fun _=>by kernel_rfl
 zs:=fun _=>by kernel_rfl
 vs:=fun _=>by kernel_rfl
 tf:=by kernel_rfl
 af:=fun _=>by kernel_rfl
 zf:=fun _=>by kernel_rfl
 vf:=fun _=>by kernel_rfl
 aE:=fun _=>by kernel_rfl
 zE:=fun _=>by kernel_rfl
def ren:Ren:=⟨fun n=>if n=20 then 129 else n,fun n=>if n=22 then 61 else if n=24 then 64 else if n=25 then 105 else n,fun n=>n⟩
theorem lays:SlLaysF0.n20 Tryz.prog ren where
 mixed:=by kernel_rfl
 f20:=⟨"slices.insertionSortCmpFunc[joist/api.Block]",by decide,by kernel_rfl⟩
 t0:=by kernel_rfl
 a0:=fun _=>by kernel_rfl
 z0:=fun _=>by kernel_rfl
 v0:=fun _=>by kernel_rfl
 t3:=by kernel_rfl
 a3:=fun _=>by kernel_rfl
 z3:=fun _=>by kernel_rfl
 v3:=fun _=>by kernel_rfl
 t4:=by kernel_rfl
 a4:=fun _=>by kernel_rfl
 z4:=fun _=>by kernel_rfl
 v4:=fun _=>by kernel_rfl
 t22:=by kernel_rfl
 a22:=fun _=>by kernel_rfl
 z22:=fun _=>by kernel_rfl
 v22:=fun _=>by kernel_rfl
 t25:=by kernel_rfl
 a25:=fun _=>by kernel_rfl
 z25:=fun _=>by kernel_rfl
 v25:=fun _=>by kernel_rfl
section
variable {α:Type}[Inhabited α]
theorem CmpLays.on{P:Program}{g:Nat}{cb:Array Value}{enc:α→List Value}{k:Nat}{cf:α→α→Int}{eS off size:Nat}{w0 w:World}{d:Array α}(h:CmpLays P g cb enc k cf eS off size w0)(hblk:eS<w0.heap.size)(S:SWK enc k w0 eS off d w)(hs:d.size=size):CmpLays P g cb enc k cf eS off size w:=by
 obtain⟨n,os,rfl⟩:=S;intro m os' dk hd x y;rw[sortWorldK_on enc k w0 eS off n m d dk os os' hblk (hd.trans hs.symm)];exact h _ _ dk hd x y
theorem uv(lt:α→α→Bool)(a:Nat):∀(j:Nat)(d:Array α),(insInner lt a j d).size=d.size
 |0,_=>rfl
 |j+1,d=>by
  rw[insInner];split
  ·rw[uv,size_swp]
  ·rfl
theorem uw(lt:α→α→Bool)(a b:Nat):∀(n i:Nat)(d:Array α),b-i=n→(insOuter lt a b i d).size=d.size
 |0,i,d,h=>by rw[insOuter,if_neg (by omega)]
 |n+1,i,d,h=>by rw[insOuter,if_pos (by omega),uw lt a b n (i+1) _ (by omega),uv]
theorem iL(lt:α→α→Bool)(a b:Nat)(d:Array α):(insertionSort lt d a b).size=d.size:=by
 unfold insertionSort;exact uw lt a b _ _ d rfl
theorem M8(enc:α→List Value)(cf:α→α→Int)(g:Nat)(cb:Array Value)(eS off cap a b:Nat)(d0 d:Array α)(w0 w:World)
 (eg:∀args w,(callFunc g args).run Tryz.prog w= .ok (.enter g args) w) (sc:CmpLays Tryz.prog g cb enc 3 cf eS off d0.size w0)
 (R:RowK enc 3 w0 eS off d0) (hs:d.size=d0.size) (S:SWK enc 3 w0 eS off d w) (hab:a≤b) (hb:b≤d.size) (oL:d.size<1000000):
 Calls Tryz.prog 129 #[.slice (some ⟨eS,off,none⟩) d.size cap,.int .i64 a,.int .i64 b,.func (.func g) #[] cb] w fun e w'=>e= .returned (.tuple #[])∧SWK enc 3 w0 eS off (insertionSort (ltOf cf) d a b) w':=by
 refine(AnyQ.insertionSortCmpFunc lays 3 (fun _=>by kernel_rfl) (fun _=>by kernel_rfl) enc R.hk R.h1 cf g cb eS off cap a b d w eg ?_ (S.holds R.hblk R.hH hs) (S.lt R.hblk) hab hb (by omega)).mono ?_
 ·rw[hs];exact CmpLays.on sc R.hblk S hs
 ·rintro e w' ⟨rfl,n,os,rfl⟩;refine⟨rfl,S.on R.hblk n _ os ?_⟩;exact(iL _ _ _ _)
theorem DI(enc:α→List Value)(cf:α→α→Int)(g:Nat)(cb:Array Value)(eS off cap:Nat)(d:Array α)(w:World)
 (eg:∀args w,(callFunc g args).run Tryz.prog w= .ok (.enter g args) w) (sc:CmpLays Tryz.prog g cb enc 3 cf eS off d.size w)
 (R:RowK enc 3 w eS off d) (oL:d.size<40):
 Calls Tryz.prog 83 #[.slice (some ⟨eS,off,none⟩) d.size cap,.int .i64 d.size,.func (.func g) #[] cb] w fun e w'=>e= .returned (.tuple #[])∧SWK enc 3 w eS off (nX (ltOf cf) d.size d) w':=by
 have S0:SWK enc 3 w eS off d w:=SWK.start R.hH;have hi:∀(a b:Nat)(dk:Array α)(w1:World),dk.size=d.size→SWK enc 3 w eS off dk w1→a≤b→b≤d.size→_:=fun a b dk w1 hs S hab hb=>M8 enc cf g cb eS off cap a b d dk w w1 eg sc R hs S hab (by omega) (by omega)
 have hI:Aside (∀(a b:Nat)(dk:Array α)(w1:World),dk.size=d.size→SWK enc 3 w eS off dk w1→a≤b→b≤d.size→
  Calls Tryz.prog 129 #[.slice (some ⟨eS,off,none⟩) d.size cap,.int .i64 a,.int .i64 b,.func (.func g) #[] cb] w1 fun e w'=>e= .returned (.tuple #[])∧SWK enc 3 w eS off (insertionSort (ltOf cf) dk a b) w'):=fun a b dk w1 hs S hab hb=>by
  have:=hi a b dk w1 hs S hab hb;rw[hs] at this;exact this
 have hM:Aside (PA Tryz.prog 3 enc cf g cb eS off cap d w 64):=CD b5 enc cf g cb eS off cap d w eg sc R (by omega) 64;have SA:Aside _:=S0;have RA:Aside _:=R;clear hi sc S0 R
 by_cases c1:d.size<20
 ·have c1z:¬(20:Int)≤(d.size:Int):=by omega
  have c1y:¬(20:Int)<(d.size:Int):=by omega
  have h1:=hI.out 0 d.size d w rfl SA.out (by omega) (Nat.le_refl _);go_enter Tryz.func83,Tryz.ntmps83;go_wp2;refine wp_loop_rounds 1 ?_;rw[rounds_succ]
  go_wp2_with(go_at_call 129;refine h1.mono ?_;rintro e w1 ⟨rfl,S1⟩;have S2:Aside _:=S1;clear S1)
  refine wp_loop_rounds 1 ?_;rw[rounds_succ];go_wp2
  go_end0
  refine⟨rfl,?_⟩;unfold nX;rw[if_pos c1];exact S2.out
 ·by_cases c2:d.size=20
  ·have h1:=hI.out 0 20 d w rfl SA.out (by omega) (by omega);have h2:Aside (∀w1,SWK enc 3 w eS off (insertionSort (ltOf cf) d 0 20) w1→_):=fun w1 S=>hI.out 20 20 (insertionSort (ltOf cf) d 0 20) w1 (iL _ _ _ _) S (Nat.le_refl _) (by omega);rw[c2] at h1 h2⊢;have C2:=Lib.hid c2;clear c2 c1;go_enter Tryz.func83,Tryz.ntmps83;go_wp2;refine wp_loop_rounds 2 ?_;rw[rounds_succ]
   go_wp2_with(go_at_call 129;refine h1.mono ?_;rintro e w1 ⟨rfl,S1⟩;have S2:Aside _:=S1;clear S1)
   rw[rounds_succ]
   go_wp2_with(go_at_call 129;refine(h2.out _ S2.out).mono ?_;rintro e w1 ⟨rfl,S3⟩;have S4:Aside _:=S3;clear S3)
   refine wp_loop_rounds 1 ?_;rw[rounds_succ];go_wp2
   go_end0
   refine⟨rfl,?_⟩;unfold nX;rw[if_neg (by omega),if_pos rfl];exact S4.out
  ·have c3z:(20:Int)≤(d.size:Int):=by omega
   have c3y:(20:Int)<(d.size:Int):=by omega
   have c4:¬(40:Int)≤(d.size:Int):=by omega
   have c5:¬(40:Int)<(d.size:Int):=by omega
   have h1:=hI.out 0 20 d w rfl SA.out (by omega) (by omega);have h2:Aside (∀w1,SWK enc 3 w eS off (insertionSort (ltOf cf) d 0 20) w1→_):=fun w1 S=>hI.out 20 d.size (insertionSort (ltOf cf) d 0 20) w1 (iL _ _ _ _) S (by omega) (Nat.le_refl _);have h3:Aside (∀w1,SWK enc 3 w eS off (insertionSort (ltOf cf) (insertionSort (ltOf cf) d 0 20) 20 d.size) w1→_):=fun w1 S=>hM.out 0 20 d.size (insertionSort (ltOf cf) (insertionSort (ltOf cf) d 0 20) 20 d.size) w1 (by omega) (by omega) (by omega) (by rw[iL,iL];omega) (by rw[iL,iL]) S;have hq:(insertionSort (ltOf cf) (insertionSort (ltOf cf) d 0 20) 20 d.size).size=d.size:=by rw[iL,iL]
   rw[hq] at h3;clear hq;go_enter Tryz.func83,Tryz.ntmps83;go_wp2;refine wp_loop_rounds 2 ?_;rw[rounds_succ]
   go_wp2_with(go_at_call 129;refine h1.mono ?_;rintro e w1 ⟨rfl,S1⟩;have S2:Aside _:=S1;clear S1)
   rw[rounds_succ]
   go_wp2_with(go_at_call 129;refine(h2.out _ S2.out).mono ?_;rintro e w1 ⟨rfl,S3⟩;have S4:Aside _:=S3;clear S3)
   refine wp_loop_rounds 2 ?_;rw[rounds_succ];go_wp2;refine wp_loop_rounds 1 ?_;rw[rounds_succ]
   go_wp2_with(go_at_call 130;refine(h3.out _ S4.out).mono ?_;rintro e w1 ⟨rfl,S5⟩;have S6:Aside _:=S5;clear S5)
   rw[rounds_succ];go_wp2
   go_end0
   refine⟨rfl,?_⟩;unfold nX;rw[if_neg c1,if_neg c2];exact S6.out
end
end Go.Proofs.YtmhdcgmfbjcndaaGreatDoor.Ay
namespace Go.Proofs.YtmhdcgmfbjcndaaGreatDoor.Ay
open Go.Shelf Go.RowKit Go.Lib Go.Sort Go.Proofs Go.Proofs.YtmhdcgmfbjcndaaGreatDoor.P Go.Proofs.aa.ag
abbrev B:=S64
instance:Inhabited B:=⟨⟨0,0,0⟩⟩
def enc(x:B):List Value:=[.int .i64 x.f0,.int .i64 x.f1,.int .i64 x.f2]
def Gk(a b:Int):Int:=if a<b then-1 else if b<a then 1 else 0
def PB(x y:B):Int:=Gk x.f0 y.f0
def sorted(xs:List B):List B:=(nX (ltOf PB) xs.length xs.toArray).toList
theorem xG(a:Int)(w:World):Calls Tryz.prog 84 #[.int .i64 a] w fun e w'=>e= .returned (.bool false)∧w=w':=by
 go_enter Tryz.func84,Tryz.ntmps84;go_wp2;go_ret;exact⟨by simp,rfl⟩
theorem Cg(a b:Int)(w:World):Calls Tryz.prog 45 #[.int .i64 a,.int .i64 b] w fun e w'=>e= .returned (.int .i64 (Gk a b))∧w=w':=by
 by_cases h:a<b
 ·have HE:=ak (show Gk a b= -1 from if_pos h);go_enter Tryz.func45,Tryz.ntmps45
  go_wp2_with(go_at_call 84;refine(xG _ _).mono ?_;rintro e w' ⟨rfl,rfl⟩)
  go_ret;exact⟨by rw[HE.out];rfl,rfl⟩
 ·by_cases h2:b<a
  ·have HE:=ak (show Gk a b=1 by unfold Gk;rw[if_neg h,if_pos h2]);go_enter Tryz.func45,Tryz.ntmps45
   go_wp2_with(go_at_call 84;refine(xG _ _).mono ?_;rintro e w' ⟨rfl,rfl⟩)
   go_ret;exact⟨by rw[HE.out];rfl,rfl⟩
  ·have HE:=ak (show Gk a b=0 by unfold Gk;rw[if_neg h,if_neg h2]);go_enter Tryz.func45,Tryz.ntmps45
   go_wp2_with(go_at_call 84;refine(xG _ _).mono ?_;rintro e w' ⟨rfl,rfl⟩)
   go_ret;exact⟨by rw[HE.out];rfl,rfl⟩
theorem Ch(x y:B)(w:World):Calls Tryz.prog 44 #[.agg (enc x).toArray,.agg (enc y).toArray] w fun e w'=>e= .returned (.int .i64 (PB x y))∧∃q os',w'=grow (w.drewN q) os':=by
 unfold enc PB;have hu:=Tryz.underlying64;go_enter Tryz.func44,Tryz.ntmps44
 go_wp2_with(go_at_call 45;refine(Cg _ _ _).mono ?_;rintro e w' ⟨rfl,rfl⟩)
 go_ret;exact⟨rfl,0,#[_,_],by rw[alloc_eq_grow,alloc_eq_grow,grow_grow];rfl⟩
theorem PC:∀args w,(callFunc 44 args).run Tryz.prog w= .ok (.enter 44 args) w:=enters_of Tryz.func44 (by kernel_rfl) rfl
theorem PD(eS off size:Nat)(w:World):CmpLays Tryz.prog 44 #[] enc 3 PB eS off size w:=fun m os dk hd x y=>Ch x y _
theorem Gl{l m:List Value}{n i:Nat}(h:l.take n=m)(hi:i<n)(hl:n≤l.length):l[i]? =m[i]? :=by
 rw[←h,List.getElem?_take,if_pos hi]
theorem te(d:Array B)(j c:Nat)(hj:j<d.size)(hc:c<3):(flatK enc 3 d)[j*3+c]! =(enc d[j]!)[c]! :=by
 rw[get_flatK _ _ _ _ (by omega),show(j*3+c)/3=j by omega,show(j*3+c)%3=c by omega]
theorem Lv(x:B):(enc x).length=3:=rfl
theorem PE(F:List Value)(j:Nat)(x:B)(hl:j*3+3≤F.length)(h:∀c,c<3→F[j*3+c]! =(enc x)[c]!):(F.drop (j*3)).take 3=enc x:=by
 apply List.ext_getElem
 ·rw[List.length_take,List.length_drop,Lv];omega
 ·intro i h1 h2;rw[List.getElem_take,List.getElem_drop];have h3:i<3:=h2;have:=h i h2
  rwa [getElem!_pos F _ (by omega),getElem!_pos (enc x) i h2] at this
theorem vM{w:World}{base g cap:Nat}{ok:Nat→Prop}{xs:List B}(h:Kd.R Ju 64 w base ok (.slice (some ⟨g,0,none⟩) xs.length cap) xs):
 ∃cur,w.heap[g]? =some (.cells cur 64 (0,0))∧cur.size=cap*3∧xs.length≤cap∧cap≤maxLen∧base≤g∧HoldsK enc 3 w g 0 xs.toArray:=by
 obtain⟨-,inner,⟨hlen,hv⟩,hr⟩:=h;rcases hv with⟨h0,-⟩|⟨g',MX,cur,hv,hb,hh,tT,Lu,hs,ht⟩
 ·cases h0
 ·obtain⟨rfl,rfl⟩:g=g'∧cap=MX:=by simpa using hv
  have hz:xs.length*3=inner.length:=hlen.symm;change cur.size=cap*3 at hs;change cur.toList.take (xs.length*3)=inner at ht;have oK:cur.toList.length=cap*3:=by rw[Array.length_toList];exact hs
  have Zd:xs.length*3≤cap*3:=Nat.mul_le_mul_right 3 tT;refine⟨cur,hh,hs,tT,Lu,hb,?_⟩;intro t ht2;rw[size_flatK] at ht2;change t<xs.length*3 at ht2;have hj:t/3<xs.length:=by omega
  refine⟨?_,by simp [World.frozen?,hh]⟩;rw[Nat.zero_add,ah hh,←Array.getElem?_toList,Gl ht ht2 (by omega)];have hM:=hr.2 (t/3) xs[t/3] (List.getElem?_eq_getElem hj);have hE:=M5 hM;rw[get_flatK _ _ _ _ (by rw[List.size_toArray];exact ht2)];have hx:(xs.toArray[t/3]! :B)=xs[t/3]:=by rw[getElem!_pos _ _ (by rw[List.size_toArray];exact hj)];simp
  rw[hx];change (inner.drop (t/3*3)).take 3=enc xs[t/3] at hE;rw[←hE];have hm:t%3<3:=by omega
  rw[getElem!_pos _ _ (by rw[hE,Lv];exact hm),List.getElem_take,List.getElem_drop,List.getElem?_eq_getElem (by omega)]
  congr 2
  show t=t/3*3+t%3;omega
theorem CE(W:World)(g n:Nat)(d:Array B)(os:Array Obj)(i:Nat)(hi:i<W.heap.size):(sortWorldK enc 3 W g 0 n d os).heap[i]? =if i=g then(W.heap[i]?).map (onCells (putCells id 0 (flatK enc 3 d))) else W.heap[i]? :=by
 show((W.heap.modify g (onCells (putCells id 0 (flatK enc 3 d))))++os)[i]? =_;rw[Array.getElem?_append_left (by simpa using hi),Array.getElem?_modify]
 by_cases h:g=i
 ·rw[if_pos h,if_pos h.symm]
 ·rw[if_neg h,if_neg (Ne.symm h)]
theorem Ci{W:World}{base g cap n:Nat}{ok:Nat→Prop}{xs:List B}(h:Kd.R Ju 64 W base ok (.slice (some ⟨g,0,none⟩) xs.length cap) xs)(d:Array B)(hd:d.size=xs.length)(os:Array Obj):
 Kd.R Ju 64 (sortWorldK enc 3 W g 0 n d os) base ok (.slice (some ⟨g,0,none⟩) xs.length cap) d.toList:=by
 obtain⟨cur,hh,hs,tT,Lu,hb,-⟩:=vM h;have cX:g<W.heap.size:=aN hh;have PF:d.toList.length=xs.length:=by rw[Array.length_toList];exact hd
 have hfl:(flatK enc 3 d).toList.length=xs.length*3:=by rw[Array.length_toList,size_flatK,hd]
 have Zd:xs.length*3≤cap*3:=Nat.mul_le_mul_right 3 tT;refine⟨h.1,(flatK enc 3 d).toList,⟨?_,.inr ⟨g,cap,putCells id 0 (flatK enc 3 d) cur,?_,hb,?_,?_,Lu,?_,?_⟩⟩,?_,?_⟩
 ·rw[hfl,PF];rfl
 ·rw[PF]
 ·rw[CE W g n d os g cX,if_pos rfl,hh];rfl
 ·rw[PF];exact tT
 ·unfold putCells;rw[Array.size_mapIdx];exact hs
 ·show(putCells id 0 (flatK enc 3 d) cur).toList.take (d.toList.length*3)=_;rw[PF];have Zy:(putCells id 0 (flatK enc 3 d) cur).toList.length=cap*3:=by rw[Array.length_toList];unfold putCells;rw[Array.size_mapIdx];exact hs
  apply List.ext_getElem
  ·rw[List.length_take,hfl,Zy];omega
  ·intro i h1 h2;rw[hfl] at h2;rw[List.getElem_take];simp only[Array.getElem_toList];unfold putCells;rw[Array.getElem_mapIdx,if_pos (by rw[size_flatK,hd];omega)];rw[getElem!_pos _ _ (by rw[size_flatK,hd];omega)];simp
 ·rw[hfl,PF];rfl
 ·intro j p hp
  have hj:j<d.size:=by
   have:=(List.getElem?_eq_some_iff.mp hp).1;omega
  have Tq:d[j]! =p:=by
   rw[getElem!_pos d j hj];have:=(List.getElem?_eq_some_iff.mp hp).2;simpa using this
  show(Ju).M _ _ _ p (((flatK enc 3 d).toList.drop (j*3)).take 3)
  rw[PE (flatK enc 3 d).toList j p (by rw[hfl];omega) (fun c hc=>by
   have:=te d j c hj hc;rw[Tq] at this;rw[←this,getElem!_pos _ _ (by rw[hfl];omega),getElem!_pos _ _ (by rw[size_flatK];omega)];simp)]
  exact Lr _ _ _ p
theorem JH{W:World}{base g n:Nat}(hg:base≤g)(hb:base≤W.heap.size)(d:Array B)(os:Array Obj):Below base W (sortWorldK enc 3 W g 0 n d os) where
 os:=rfl
 tape:=rfl
 output:=rfl
 size:=by
  unfold sortWorldK;rw[size_grow,size_putRowK];show W.heap.size≤W.heap.size+_;omega
 block:=fun k hk=>by rw[CE W g n d os k (by omega),if_neg (by omega)]
theorem vN(lt:B→B→Bool)(n:Nat)(d:Array B):(nX lt n d).size=d.size:=by
 unfold nX;split
 ·rw[iL]
 ·split
  ·rw[iL,iL]
  ·rw[nh,iL,iL]
theorem JI:sorted []=[]:=by
 apply List.length_eq_zero_iff.mp;unfold sorted;have:=vN (ltOf PB) ([]:List B).length ([]:List B).toArray;rw[Array.length_toList,this];rfl
theorem JJ{w:World}{base:Nat}{ok:Nat→Prop}{v:Value}{xs:List B}(h:Kd.R Ju 64 w base ok v xs)(eQ:base≤w.heap.size)(hlen:xs.length<40):
 Calls Tryz.prog 43 #[v,.func (.func 44) #[] #[]] w fun e w'=>e= .returned (.tuple #[])∧Kd.R Ju 64 w' base ok v (sorted xs)∧Below base w w':=by
 have hv:(v= .slice none 0 0∧xs=[])∨∃g cap,v= .slice (some ⟨g,0,none⟩) xs.length cap:=by
  obtain⟨-,inner,⟨-,hv⟩,-⟩:=h;rcases hv with⟨h0,h1⟩|⟨g',MX,cur,hv,-⟩
  ·exact .inl ⟨h0,List.length_eq_zero_iff.mp h1⟩
  ·exact .inr ⟨g',MX,hv⟩
 rcases hv with⟨rfl,rfl⟩|⟨g,cap,rfl⟩
 ·have H:=ak h;clear h
  have ak9:∀w,Calls Tryz.prog 129 #[.slice none 0 0,.int .i64 0,.int .i64 0,.func (.func 44) #[] #[]] w fun e w'=>e= .returned (.tuple #[])∧w=w':=by
   intro w;go_enter Tryz.func129,Tryz.ntmps129;go_wp2;refine wp_loop_rounds 1 ?_;rw[rounds_succ];go_wp2
   go_end0
   exact⟨rfl,rfl⟩
  have h83:∀w,Calls Tryz.prog 83 #[.slice none 0 0,.int .i64 0,.func (.func 44) #[] #[]] w fun e w'=>e= .returned (.tuple #[])∧w=w':=by
   intro w;go_enter Tryz.func83,Tryz.ntmps83;go_wp2;refine wp_loop_rounds 1 ?_;rw[rounds_succ]
   go_wp2_with(go_at_call 129;refine(ak9 _).mono ?_;rintro e w1 ⟨rfl,rfl⟩)
   refine wp_loop_rounds 1 ?_;rw[rounds_succ];go_wp2
   go_end0
   exact⟨rfl,rfl⟩
  go_enter Tryz.func43,Tryz.ntmps43
  go_wp2_with(go_at_call 83;refine(h83 _).mono ?_;rintro e w1 ⟨rfl,rfl⟩)
  go_end0
  exact⟨rfl,by rw[JI];exact H.out,Below.refl _ _⟩
 ·obtain⟨cur,hh,hs,tT,Lu,hb,hH⟩:=vM h;have hz:xs.toArray.size=xs.length:=List.size_toArray
  have R:RowK enc 3 w g 0 xs.toArray:=⟨fun _=>rfl,fun x v hv=>by
   simp only[enc,List.mem_cons,List.not_mem_nil,or_false] at hv;rcases hv with rfl|rfl|rfl<;>rfl,hH,aN hh⟩
  have hc:=DI enc PB 44 #[] g 0 cap xs.toArray w PC (PD _ _ _ _) R (by omega);rw[hz] at hc;have HC:=ak hc;have HR:=ak h;clear hc hh hs tT Lu hH R h hz;go_enter Tryz.func43,Tryz.ntmps43
  go_wp2_with(go_at_call 83;refine HC.out.mono ?_;rintro e w1 ⟨rfl,n,os,rfl⟩)
  go_end0
  refine⟨rfl,?_,JH hb eQ _ _⟩;have:=Ci (n:=n) HR.out (nX (ltOf PB) xs.length xs.toArray) (by rw[vN,List.size_toArray]) os;exact this
end Go.Proofs.YtmhdcgmfbjcndaaGreatDoor.Ay
namespace Go.Proofs.YtmhdcgmfbjcndaaGreatDoor.P
open Go.RowKit Go.Proofs.aa.ag Go.Proofs.aa.ao Go.Proofs.aa.ay
attribute [local go_sem] bD bw cj bV bj bk bG bH
def iM.f(az ax dO gH:Int):Option Bool:=if ax<gH then some true else if ax=gH then some (decide (az<dO)) else some false
theorem iM.calls(az ax dO gH:Int)(r:Bool)(w:World)(h:iM.f az ax dO gH=some r):
 Calls Tryz.prog 205 #[.agg #[.int .i64 az,.int .i64 ax],.agg #[.int .i64 dO,.int .i64 gH]] w fun e w'=>e= .returned (.bool r)∧Below w.heap.size w w':=by
 have TR:=Tryz.underlying66;have HB:=ak (Below.refl w.heap.size w);have H:=ak h;clear h;unfold iM.f at H;replace H:=ic H;rcases H with⟨kU,H⟩|⟨kU,H⟩
 ·obtain rfl:=s1 H;go_enter Tryz.func205,Tryz.ntmps205
  go_wp2_with(first|((with_reducible refine gd 2 ?_);refine bY 66 #[.int .i64 az,.int .i64 ax] fun WM w4 pU WN HB=>?_)|((with_reducible refine gd 3 ?_);refine bX 66 #[.int .i64 dO,.int .i64 gH] fun WO w5 Gm WQ HB hg hb=>?_;obtain⟨qR,qT⟩:=nn pU hg;replace pU:=qk pU hb;clear hb hg;have atf:=qR.1;have atg:=qT.1;obtain⟨nZ,n9⟩:=cf pU;obtain⟨uR,uS⟩:=cf Gm))
  go_ret;exact⟨re,bl⟩
 ·replace H:=iC H;rcases H with⟨c9,H⟩|⟨c9,H⟩
  ·have AB:(ax==gH)=true:=beq_iff_eq.mpr c9;have Zz:(ax !=gH)=false:=bne_eq_false_iff_eq.mpr c9;clear c9;obtain rfl:=s1 H;go_enter Tryz.func205,Tryz.ntmps205
   go_wp2_with(first|((with_reducible refine gd 2 ?_);refine bY 66 #[.int .i64 az,.int .i64 ax] fun WM rN pU WN HB=>?_)|((with_reducible refine gd 3 ?_);refine bX 66 #[.int .i64 dO,.int .i64 gH] fun WO w11 Gm WQ HB hg hb=>?_;obtain⟨qR,qT⟩:=nn pU hg;replace pU:=qk pU hb;clear hb hg;have PG:=qR.1;have PH:=qT.1;obtain⟨pV,pW⟩:=cf pU;obtain⟨pX,pY⟩:=cf Gm))
   go_ret;exact⟨re,bl⟩
  ·have AB:(ax==gH)=false:=beq_eq_false_iff_ne.mpr c9;have Zz:(ax !=gH)=true:=bne_iff_ne.mpr c9;obtain rfl:=s1 H;go_enter Tryz.func205,Tryz.ntmps205
   go_wp2_with(first|((with_reducible refine gd 2 ?_);refine bY 66 #[.int .i64 az,.int .i64 ax] fun WM TS pU WN HB=>?_)|((with_reducible refine gd 3 ?_);refine bX 66 #[.int .i64 dO,.int .i64 gH] fun WO M9 Gm WQ HB hg hb=>?_;obtain⟨qR,qT⟩:=nn pU hg;replace pU:=qk pU hb;clear hb hg;have PI:=qR.1;have PJ:=qT.1;obtain⟨pZ,p7⟩:=cf pU;obtain⟨DJ,DL⟩:=cf Gm))
   go_ret;exact⟨re,bl⟩
def ff.l0:Nat→Int→Bool→List eE→Int→Int→Int→Int→Option (Int×Int×Bool)
 |0,_,_,_,_,_,_,_=>none
 |k+1,x1,x5,x8,x9,sN,zw,zx=>if sN<x9 then(if 0≤sN then(if sN<(x8.length:Int) then if((bU x8 sN).f1)≥x1 then if x5=true then(iM.f ((bU x8 sN).f0) ((bU x8 sN).f1) zw zx).bind fun adJ=>(if adJ=true then ff.l0 k x1 true x8 x9 (wrap64 (sN+1)) ((bU x8 sN).f0) ((bU x8 sN).f1) else ff.l0 k x1 x5 x8 x9 (wrap64 (sN+1)) zw zx) else ff.l0 k x1 true x8 x9 (wrap64 (sN+1)) ((bU x8 sN).f0) ((bU x8 sN).f1) else ff.l0 k x1 x5 x8 x9 (wrap64 (sN+1)) zw zx else none) else none) else some (zw,zx,x5)
def ff.f(k:Nat)(l0:List eE)(a1:Int):Option (Int×Int×Bool):=ff.l0 k a1 false l0 (l0.length:Int) 0 0 0
theorem ff.calls(k:Nat)(A0:Option Addr)(c0:Nat)(l0:List eE)(a1 r1 r2:Int)(r3:Bool)(w:World)(fS:Kd.C zb w A0 l0.length l0)(jr:l0.length≤c0)(h:ff.f k l0 a1=some (r1,r2,r3)):
 Calls Tryz.prog 201 #[.slice A0 l0.length c0,.int .i64 a1] w fun e w'=>e= .returned (.tuple #[.agg #[.int .i64 r1,.int .i64 r2],.bool r3])∧Below w.heap.size w w':=by
 have TR:=Tryz.underlying66;have jb:=ak fS;have uj:=ak jr;clear fS jr;have HB:=ak (Below.refl w.heap.size w);have H:=ak h;clear h;unfold ff.f at H;go_enter Tryz.func201,Tryz.ntmps201
 go_wp2_with((with_reducible refine gd 4 ?_);refine bY 66 #[.int .i64 0,.int .i64 0] fun WR w3 jf apx HB=>?_)
 go_loopg [5,10] k (fun kq v5 v10 w'=>∃(sO:Bool)(iN:Int)(jZ:Int)(iH:Int),v5= .bool sO∧v10= .int .i64 iN∧ae (ff.l0 kq a1 sO l0 (l0.length:Int) iN jZ iH=some (r1,r2,r3))∧ae (kq≤k)∧ae (w'.heap[WR]? =some (.cells #[.int .i64 jZ,.int .i64 iH] 66 (0,0)))∧ae (Below w.heap.size w w'))
 case atStart=>exact⟨false,0,0,0,rs,rs,H,⟨Nat.le_refl _⟩,⟨bu jf⟩,⟨bl⟩⟩
 case round=>
  clear H;obtain⟨sO,iN,jZ,iH,rfl,rfl,H,iB,jf,HB⟩:=hrel;cases gk with
  |zero=>exact absurd H.1 (by simp [ff.l0])
  |succ k1=>
   simp only[ff.l0] at H;replace H:=ic H;rcases H with⟨jP,H⟩|⟨jP,H⟩
   ·replace H:=iO H;obtain⟨iG,H⟩:=H;replace H:=iO H;obtain⟨lu,H⟩:=H;replace H:=ic H;rcases H with⟨vO,H⟩|⟨vO,H⟩
    ·replace H:=ib H;rcases H with⟨rfl,H⟩|⟨rfl,H⟩
     ·replace H:=bI H;obtain⟨adJ,A9,H⟩:=H;(try dsimp only at H);replace H:=ib H;rcases H with⟨rfl,H⟩|⟨rfl,H⟩
      ·obtain⟨PK,JK,DP,DQ⟩:=oZ (cw jb) iN dt dt;cases JK;have ZA:=tp (0≤(iN:Int));have ZB:=tp (iN<(l0.length:Int))
       go_wp2_with(first|((with_reducible refine gd 7 ?_);refine bX 66 #[.int .i64 0,.int .i64 0] fun PL w11 sB PM HB hg hb=>?_;obtain⟨kV,mK⟩:=nn jf hg;replace jf:=qk jf hb;clear hb hg;have PG:=mK.1;have PH:=kV.1;obtain⟨pV,pW⟩:=cf sB;obtain⟨pX,pY⟩:=cf jf)|(go_at_call 205;(with_reducible refine(iM.calls ((bU l0 iN).f0) ((bU l0 iN).f1) jZ iH true _ A9.1).mono ?_);rintro e TS ⟨rfl,hb⟩;replace jf:=qk jf hb;replace sB:=pb sB hb;replace HB:=qb hb;clear hb;obtain⟨ot,ou⟩:=cf sB;obtain⟨vP,vQ⟩:=cf jf))
       go_roundg k1
       case measure=>have:=iB.1;omega
       case rel=>exact⟨true,(wrap64 (iN+1)),((bU l0 iN).f0),((bU l0 iN).f1),rs,rs,H,⟨by have:=iB.1;omega⟩,⟨by(with_reducible repeat (first|refine cW ?_ _|refine aY ?_|refine ar ?_ _));refine aQ (cs:= #[.int .i64 ((bU l0 iN).f0),.int .i64 iH]) ?_ 1 _ rfl;(with_reducible repeat (first|refine cW ?_ _|refine aY ?_|refine ar ?_ _));refine aQ (cs:= #[.int .i64 jZ,.int .i64 iH]) ?_ 0 _ rfl;(with_reducible repeat (first|refine cW ?_ _|refine aY ?_|refine ar ?_ _));exact jf.1⟩,⟨bl⟩⟩
      ·obtain⟨PK,JK,DP,DQ⟩:=oZ (cw jb) iN dt dt;cases JK;have ZA:=tp (0≤(iN:Int));have ZB:=tp (iN<(l0.length:Int))
       go_wp2_with(first|((with_reducible refine gd 7 ?_);refine bX 66 #[.int .i64 0,.int .i64 0] fun PL w18 sB PM HB hg hb=>?_;obtain⟨kV,mK⟩:=nn jf hg;replace jf:=qk jf hb;clear hb hg;have PN:=mK.1;have PO:=kV.1;obtain⟨p8,qa⟩:=cf sB;obtain⟨vS,vT⟩:=cf jf)|(go_at_call 205;(with_reducible refine(iM.calls ((bU l0 iN).f0) ((bU l0 iN).f1) jZ iH false _ A9.1).mono ?_);rintro e w22 ⟨rfl,hb⟩;replace jf:=qk jf hb;replace sB:=pb sB hb;replace HB:=qb hb;clear hb))
       go_roundg k1
       case measure=>have:=iB.1;omega
       case rel=>exact⟨true,(wrap64 (iN+1)),jZ,iH,rs,rs,H,⟨by have:=iB.1;omega⟩,⟨bu jf⟩,⟨bl⟩⟩
     ·obtain⟨PK,JK,DP,DQ⟩:=oZ (cw jb) iN dt dt;cases JK;have ZA:=tp (0≤(iN:Int));have ZB:=tp (iN<(l0.length:Int))
      go_wp2_with((with_reducible refine gd 7 ?_);refine bX 66 #[.int .i64 0,.int .i64 0] fun PL w23 sB PM HB hg hb=>?_;obtain⟨kV,mK⟩:=nn jf hg;replace jf:=qk jf hb;clear hb hg;have apy:=mK.1;have apz:=kV.1;obtain⟨vU,vV⟩:=cf sB;obtain⟨zy,zz⟩:=cf jf)
      go_roundg k1
      case measure=>have:=iB.1;omega
      case rel=>exact⟨true,(wrap64 (iN+1)),((bU l0 iN).f0),((bU l0 iN).f1),rs,rs,H,⟨by have:=iB.1;omega⟩,⟨by(with_reducible repeat (first|refine cW ?_ _|refine aY ?_|refine ar ?_ _));refine aQ (cs:= #[.int .i64 ((bU l0 iN).f0),.int .i64 iH]) ?_ 1 _ rfl;(with_reducible repeat (first|refine cW ?_ _|refine aY ?_|refine ar ?_ _));refine aQ (cs:= #[.int .i64 jZ,.int .i64 iH]) ?_ 0 _ rfl;(with_reducible repeat (first|refine cW ?_ _|refine aY ?_|refine ar ?_ _));refine aJ ?_ kV.1 _;(with_reducible repeat (first|refine cW ?_ _|refine aY ?_|refine ar ?_ _));refine aJ ?_ kV.1 _;(with_reducible repeat (first|refine cW ?_ _|refine aY ?_|refine ar ?_ _));exact jf.1⟩,⟨bl⟩⟩
    ·obtain⟨PK,JK,DP,DQ⟩:=oZ (cw jb) iN dt dt;cases JK;have ZA:=tp (0≤(iN:Int));have ZB:=tp (iN<(l0.length:Int))
     go_wp2_with((with_reducible refine gd 7 ?_);refine bX 66 #[.int .i64 0,.int .i64 0] fun PL w27 sB PM HB hg hb=>?_;obtain⟨kV,mK⟩:=nn jf hg;replace jf:=qk jf hb;clear hb hg;have PQ:=mK.1;have PR:=kV.1;obtain⟨zA,zB⟩:=cf sB)
     go_roundg k1
     case measure=>have:=iB.1;omega
     case rel=>exact⟨sO,(wrap64 (iN+1)),jZ,iH,rs,rs,H,⟨by have:=iB.1;omega⟩,⟨bu jf⟩,⟨bl⟩⟩
   ·obtain⟨rfl,rfl,rfl⟩:=s3 H;obtain⟨vW,vX⟩:=cf jf;go_wp2;refine bodyPost_ret (fY rfl _ _ WR 66 #[.int .i64 jZ,.int .i64 iH] (0,0) _ rfl pk Tryz.underlying66 rfl (by kernel_rfl)) rfl ?_;exact⟨re,bl⟩
def kW.f(a0:Int):Option ((List cU)×Int):=if a0<2 then(some (([]:List cU),1)) else(if a0>32 then(some (([]:List cU),1)) else(if(Int.tmod a0 2)=0 then(if 0≤a0 then(if(a0:Int).toNat≤8796093022208 then(some ((List.replicate (a0:Int).toNat z43),0)) else none) else none) else(some (([]:List cU),1))))
theorem kW.calls(a0:Int)(r1:List cU)(r2:Int)(w:World)(h:kW.f a0=some (r1,r2)):
 Calls Tryz.prog 37 #[.int .i64 a0] w fun e w'=>∃kT:Value,e= .returned (.tuple #[kT,.int .i64 r2])∧Kd.R gW 43 w' w.heap.size (fun _=>True) kT r1∧Below w.heap.size w w':=by
 have HB:=ak (Below.refl w.heap.size w);have H:=ak h;clear h;unfold kW.f at H;replace H:=ic H;rcases H with⟨mC,H⟩|⟨mC,H⟩
 ·obtain⟨rfl,rfl⟩:=s2 H;go_enter Tryz.func37,Tryz.ntmps37;go_wp2;go_ret2;exact⟨_,re,kn,bl⟩
 ·replace H:=ic H;rcases H with⟨kU,H⟩|⟨kU,H⟩
  ·obtain⟨rfl,rfl⟩:=s2 H;go_enter Tryz.func37,Tryz.ntmps37;go_wp2;go_ret2;exact⟨_,re,kn,bl⟩
  ·replace H:=iC H;rcases H with⟨c4,H⟩|⟨c4,H⟩
   ·have jP:((Int.tmod a0 2)==0)=true:=beq_iff_eq.mpr c4;have Nd:((Int.tmod a0 2) !=0)=false:=bne_eq_false_iff_eq.mpr c4;clear c4;replace H:=iP H;obtain⟨c5,H⟩:=H;have iG:=eq_true c5;have JR:=decide_eq_true c5;clear c5;replace H:=iP H;obtain⟨c6,H⟩:=H;have lu:=eq_true c6;have Gt:=decide_eq_true c6;clear c6;obtain⟨atl,PV⟩:=nm (List.replicate (a0:Int).toNat z43);rw[←PV.1] at H;obtain⟨rfl,rfl⟩:=s2 H;go_enter Tryz.func37,Tryz.ntmps37
    go_wp2_with((with_reducible refine gd 16 ?_);refine Kd.Ak gW _ 43 rfl (N:=16) rfl 24 _ _ rfl a0 rfl rfl Tryz.underlying24 (.agg #[(.int .i64 0),(.bool false),(.bool false),(.int .i64 0),(.int .i64 0)]) 32 oX rfl (by decide) (by omega) z43 (ok:=fun _=>True) (kc:=fun _=>True) (tS _ _ _ z43) (fun _ hk=>hk) trivial dt (Nat.le_trans (Nat.mul_le_mul_right _ (dt:a0.toNat≤8796093022208)) (by omega)) (Below.refl _ _) (Nat.le_refl _) ?_;intro atm w7 CJ hb qh gY;clear qh gY;(first|rw[←PV.1] at CJ|(simp only[Int.reduceToNat] at CJ;rw[←PV.1] at CJ));have adQ:=ak (Kd.bO CJ (aq bl));replace HB:=qb hb;clear hb CJ)
    go_ret2;exact⟨_,re,by(with_reducible repeat (first|apply Kd.bQ|apply Kd.dh|apply Kd.cR));exact adQ.1,bl⟩
   ·have jP:((Int.tmod a0 2)==0)=false:=beq_eq_false_iff_ne.mpr c4;have Nd:((Int.tmod a0 2) !=0)=true:=bne_iff_ne.mpr c4;obtain⟨rfl,rfl⟩:=s2 H;go_enter Tryz.func37,Tryz.ntmps37;go_wp2;go_ret2;exact⟨_,re,kn,bl⟩
def iX.f(az:Int)(ax aA:Bool)(aC aV:Int):Option Bool:=if ax=true then some false else some (az !=65535)
theorem iX.calls(az:Int)(ax aA:Bool)(aC aV:Int)(r:Bool)(w:World)(h:iX.f az ax aA aC aV=some r):
 Calls Tryz.prog 102 #[.agg #[.int .i64 az,.bool ax,.bool aA,.int .i64 aC,.int .i64 aV]] w fun e w'=>e= .returned (.bool r)∧Below w.heap.size w w':=by
 have D':=Tryz.underlying43;have HB:=ak (Below.refl w.heap.size w);have H:=ak h;clear h;unfold iX.f at H;replace H:=ib H;rcases H with⟨rfl,H⟩|⟨rfl,H⟩
 ·obtain rfl:=s1 H;go_enter Tryz.func102,Tryz.ntmps102
  go_wp2_with((with_reducible refine gd 1 ?_);refine bY 43 #[.int .i64 az,.bool true,.bool aA,.int .i64 aC,.int .i64 aV] fun adV w3 PW adW HB=>?_;obtain⟨Ed,Ee⟩:=cf PW)
  go_ret;exact⟨re,bl⟩
 ·obtain rfl:=s1 H;go_enter Tryz.func102,Tryz.ntmps102
  go_wp2_with((with_reducible refine gd 1 ?_);refine bY 43 #[.int .i64 az,.bool false,.bool aA,.int .i64 aC,.int .i64 aV] fun adV w5 PW adW HB=>?_;obtain⟨JO,JP⟩:=cf PW)
  go_ret;exact⟨re,bl⟩
end Go.Proofs.YtmhdcgmfbjcndaaGreatDoor.P
