import Derived.Test.YtmhdcgmfbjcndaaGreatDoorB16
import Derived.Test.YtmhdcgmfbjcndaaGreatDoorB18
import Derived.BigRegion
import Derived.Laws.Bits64b
import Derived.RegionTactic
import Derived.StillTailTactics
set_option linter.unusedVariables false
set_option linter.unusedSimpArgs false
set_option maxRecDepth 100000
set_option maxHeartbeats 8000000
namespace Go.Proofs.YtmhdcgmfbjcndaaGreatDoor.P
open Go.RowKit Go.Proofs.aa.ag Go.Proofs.aa.ao Go.Proofs.aa.ay
attribute [local go_sem] bD bw cj bV bj bk bG bH
def jE.f(k:Nat)(l0:List cU)(a1:Int):Option ((List cU)×Int):=(bW.f k l0).bind fun t284=>(if t284=true then(if a1<0 then(some (([]:List cU),1)) else(if a1≥(l0.length:Int) then(some (([]:List cU),1)) else(if 0≤a1 then(if a1<(l0.length:Int) then(if((aM l0 a1).f1=true) then(jD.f l0 a1 (mn (wrap64 (((aM l0 a1).f0)+1)) 65535) false false 0 0).bind fun t287=>(some (t287,0)) else(some (([]:List cU),1))) else none) else none))) else(some (([]:List cU),1)))
theorem jE.calls(k:Nat)(A0:Option Addr)(c0:Nat)(l0:List cU)(a1:Int)(r1:List cU)(r2:Int)(w:World)(fS:Kd.C gW w A0 l0.length l0)(jr:l0.length≤c0)(h:jE.f k l0 a1=some (r1,r2)):
 Calls Tryz.prog 150 #[.slice A0 l0.length c0,.int .i64 a1] w fun e w'=>∃kT:Value,e= .returned (.tuple #[kT,.int .i64 r2])∧Kd.R gW 43 w' w.heap.size (fun _=>True) kT r1∧Below w.heap.size w w':=by
 have D':=Tryz.underlying43;have jb:=ak fS;have uj:=ak jr;clear fS jr;have HB:=ak (Below.refl w.heap.size w);have H:=ak h;clear h;unfold jE.f at H;replace H:=bI H;obtain⟨t284,A3,H⟩:=H;(try dsimp only at H);replace H:=ib H;rcases H with⟨rfl,H⟩|⟨rfl,H⟩
 ·replace H:=ic H;rcases H with⟨iG,H⟩|⟨iG,H⟩
  ·obtain⟨rfl,rfl⟩:=s2 H;go_enter Tryz.func150,Tryz.ntmps150
   go_wp2_with((with_reducible refine gc 40 ?_);refine gl 8 Tryz.func40 #[.slice A0 l0.length c0] ?_;(with_reducible refine(bW.calls k _ _ l0 true _ (cu jb) uj.1 A3.1).mono ?_);rintro e w6 ⟨rfl,hb⟩;refine⟨_,rfl,?_⟩;replace HB:=qb hb;clear hb)
   go_ret2;exact⟨_,re,kn,bl⟩
  ·replace H:=ic H;rcases H with⟨vO,H⟩|⟨vO,H⟩
   ·obtain⟨rfl,rfl⟩:=s2 H;go_enter Tryz.func150,Tryz.ntmps150
    go_wp2_with((with_reducible refine gc 40 ?_);refine gl 8 Tryz.func40 #[.slice A0 l0.length c0] ?_;(with_reducible refine(bW.calls k _ _ l0 true _ (cu jb) uj.1 A3.1).mono ?_);rintro e w8 ⟨rfl,hb⟩;refine⟨_,rfl,?_⟩;replace HB:=qb hb;clear hb)
    go_ret2;exact⟨_,re,kn,bl⟩
   ·replace H:=iO H;obtain⟨AB,H⟩:=H;replace H:=iO H;obtain⟨yx,H⟩:=H;obtain⟨aty,AG⟩:=nm ((aM l0 a1).f1);rw[←AG.1] at H;replace H:=ib H;rcases H with⟨rfl,H⟩|⟨rfl,H⟩
    ·obtain⟨PY,AH⟩:∃j_:Int,(mn (wrap64 (((aM l0 a1).f0)+1)) 65535)=j_:=⟨_,rfl⟩;(first|rw[AH] at H|simp only[AH] at H);(try rw[AH] at A3);(try (have alo:PY≤65535:=by(rw[←AH];unfold mn;(repeat' split)<;>omega)));(try (have alp:PY≤64:=by omega));have alq:(if 65535<(wrap64 (((aM l0 a1).f0)+1)) then 65535 else wrap64 (((aM l0 a1).f0)+1))=PY:=AH;replace H:=bI H;obtain⟨t287,WY,H⟩:=H;(try dsimp only at H);obtain⟨rfl,rfl⟩:=s2 H;go_enter Tryz.func150,Tryz.ntmps150
     go_wp2_with(first|((with_reducible refine gc 40 ?_);refine gl 8 Tryz.func40 #[.slice A0 l0.length c0] ?_;(with_reducible refine(bW.calls k _ _ l0 true _ (cu jb) uj.1 A3.1).mono ?_);rintro e TS ⟨rfl,hb⟩;refine⟨_,rfl,?_⟩;replace HB:=qb hb;clear hb;have JW:0≤(a1:Int):=dt;have JX:a1<(l0.length:Int):=dt;obtain⟨PZ,ZI,vY,se,sf,vZ,wa⟩:=gq jb.1 a1 JW JX;(try rw[←AG.1] at se);(try rw[←AG.1] at sf);cases ZI;replace vY:=hy vY;replace se:=hy se;replace sf:=hy sf;replace vZ:=hy vZ;replace wa:=hy wa;replace JW:=eq_true JW;replace JX:=eq_true JX;have ZJ:0≤(a1:Int):=dt;have ZK:a1<(l0.length:Int):=dt;obtain⟨ad5,alr,Ly,Eh,Ei,LA,LB⟩:=gq jb.1 a1 ZJ ZK;(try rw[←AG.1] at Eh);(try rw[←AG.1] at Ei);obtain rfl:PZ=ad5:=(by injection alr);replace Ly:=hy Ly;replace Eh:=hy Eh;replace Ei:=hy Ei;replace LA:=hy LA;replace LB:=hy LB;replace ZJ:=eq_true ZJ;replace ZK:=eq_true ZK)|((with_reducible refine gc 176 ?_);refine Dk (some 39) rfl rfl Tryz.func176 (by kernel_rfl) rfl #[.slice (some PZ) l0.length c0,.int .i64 a1,.agg #[.int .i64 PY,.bool false,.bool false,.int .i64 0,.int .i64 0]] rfl (by(try simp only[List.map_toArray,List.map_cons,List.map_nil]);first|done|(simp only[AH];rfl)|rfl|(simp only[List.length_drop,List.length_take];rfl)) ?_;(with_reducible refine(jD.calls _ _ l0 a1 PY false false 0 0 t287 _ (cu jb) uj.1 WY.1).mono ?_);rintro e M9 ⟨atz,rfl,gu,hb⟩;refine⟨_,rfl,?_⟩;have ad7:=ak (Kd.bO gu (aq bl));replace HB:=qb hb;clear hb;(try clear gu)))
     go_ret2;exact⟨_,by first|rfl|(simp [gL,gM]<;>rfl)|(simp only[←AH];first|rfl|(simp [gL,gM]<;>rfl))|(simp [*,gL,gM]<;>rfl),by(with_reducible repeat (first|apply Kd.bQ|apply Kd.dh|apply Kd.cR));exact ad7.1,bl⟩
    ·obtain⟨rfl,rfl⟩:=s2 H;go_enter Tryz.func150,Tryz.ntmps150
     go_wp2_with((with_reducible refine gc 40 ?_);refine gl 8 Tryz.func40 #[.slice A0 l0.length c0] ?_;(with_reducible refine(bW.calls k _ _ l0 true _ (cu jb) uj.1 A3.1).mono ?_);rintro e WZ ⟨rfl,hb⟩;refine⟨_,rfl,?_⟩;replace HB:=qb hb;clear hb;have JW:0≤(a1:Int):=dt;have JX:a1<(l0.length:Int):=dt;obtain⟨PZ,ZI,vY,se,sf,vZ,wa⟩:=gq jb.1 a1 JW JX;(try rw[←AG.1] at se);(try rw[←AG.1] at sf);cases ZI;replace vY:=hy vY;replace se:=hy se;replace sf:=hy sf;replace vZ:=hy vZ;replace wa:=hy wa;replace JW:=eq_true JW;replace JX:=eq_true JX)
     go_ret2;exact⟨_,re,kn,bl⟩
 ·obtain⟨rfl,rfl⟩:=s2 H;go_enter Tryz.func150,Tryz.ntmps150
  go_wp2_with((with_reducible refine gc 40 ?_);refine gl 8 Tryz.func40 #[.slice A0 l0.length c0] ?_;(with_reducible refine(bW.calls k _ _ l0 false _ (cu jb) uj.1 A3.1).mono ?_);rintro e w18 ⟨rfl,hb⟩;refine⟨_,rfl,?_⟩;replace HB:=qb hb;clear hb)
  go_ret2;exact⟨_,re,kn,bl⟩
end Go.Proofs.YtmhdcgmfbjcndaaGreatDoor.P
namespace Go.Proofs.YtmhdcgmfbjcndaaGreatDoor.Pl
open Go.RowKit Go.Proofs.YtmhdcgmfbjcndaaGreatDoor.P Go.Proofs.aa.ag Go.Proofs.aa.ao Go.Proofs.YtmhdcgmfbjcndaaGreatDoor.OR
theorem ze(l:List cU)(i:Nat)(h:i<l.length):aM l (i:Int)=l[i]:=by
 unfold aM;rw[Int.toNat_natCast,List.getD_eq_getElem?_getD,List.getElem?_eq_getElem h];rfl
theorem ad9(l:List S64)(i:Nat)(h:i<l.length):gR l (i:Int)=l[i]:=by
 unfold gR;rw[Int.toNat_natCast,List.getD_eq_getElem?_getD,List.getElem?_eq_getElem h];rfl
theorem rdL(l:List (List Int))(i:Nat)(h:i<l.length):dn l (i:Int)=l[i]:=by
 unfold dn;rw[Int.toNat_natCast,List.getD_eq_getElem?_getD,List.getElem?_eq_getElem h];rfl
theorem rh(i:Nat)(h:i<1000000000):wrap64 ((i:Int)+1)=((i+1:Nat):Int):=by rw[iz (by omega) (by omega)];omega
def CL(s:cU):Bool:=decide (0≤s.f0)&&decide (s.f0≤65535)&&(if s.f1=true then decide (0≤s.f3)&&decide (s.f3≤2048)&&decide (1≤s.f4)&&decide (s.f4≤2048) else !s.f2&&s.f3==0&&s.f4==0)
theorem CM(k:Nat)(hk:1≤k)(s:cU):dR.f k s.f0 s.f1 s.f2 s.f3 s.f4=some (CL s):=by
 obtain⟨k,rfl⟩:∃m,k=m+1:=⟨k-1,by omega⟩;obtain⟨g,lv,tw,at_,ln⟩:=s;unfold dR.f CL;simp only[dR.j0];cases lv<;>cases tw<;>repeat' split
 all_goals (simp_all<;>omega)
def Nf(n:Int):Bool:=decide (2≤n)&&decide (n≤32)&&decide (n%2=0)
theorem Ud(n:Int):((kW.f n).bind fun bt=>some (bt.2==0))=some (Nf n):=by
 unfold kW.f Nf
 by_cases h1:n<2
 ·rw[if_pos h1];simp;omega
 ·rw[if_neg h1]
  by_cases h2:n>32
  ·rw[if_pos h2];simp;omega
  ·rw[if_neg h2];have e:Int.tmod n 2=n%2:=Int.tmod_eq_emod_of_nonneg (by omega);rw[e]
   by_cases h3:n%2=0
   ·rw[if_pos h3,if_pos (by omega),if_pos (by omega)];simp;omega
   ·rw[if_neg h3];simp;omega
theorem Gu(l0 l:List cU)(hl:l.length≤1000000):∀(d k i:Nat),i+d=l.length→d+1<k→bW.l0 k l0 l (l.length:Int) i=if(l.drop i).all CL=true then some (Nf l0.length) else some false:=by
 intro d
 induction d with
 |zero=>
  intro k i hi hk;obtain⟨k,rfl⟩:∃m,k=m+1:=⟨k-1,by omega⟩;simp only[bW.l0];rw[if_neg (by omega),List.drop_of_length_le (by omega),Ud];simp
 |succ d ih=>
  intro k i hi hk;obtain⟨k,rfl⟩:∃m,k=m+1:=⟨k-1,by omega⟩;simp only[bW.l0];rw[List.drop_eq_getElem_cons (show i<l.length by omega),List.all_cons,if_pos (by omega),if_pos (by omega),if_pos (by omega),CM k (by omega),Option.bind_some,rh i (by omega),ih k (i+1) (by omega) (by omega),ze l i (by omega)];cases CL l[i]<;>simp
def lH(l:List cU):Bool:=l.all CL&&Nf l.length
theorem xK(k:Nat)(l:List cU)(hl:l.length≤1000000)(hk:l.length+1<k):bW.f k l=some (lH l):=by
 have h:=Gu l l hl l.length k 0 (by omega) hk;unfold bW.f lH;rw[show((0:Nat):Int)=0 from rfl,List.drop_zero] at h;rw[h];cases l.all CL<;>simp
theorem iu{l:List cU}(h:lH l=true):2≤l.length∧l.length≤32:=by
 unfold lH Nf at h;simp only[Bool.and_eq_true,decide_eq_true_eq] at h;omega
theorem lR{l:List cU}(h:lH l=true):∀s∈l,CL s=true:=by
 unfold lH at h;rw[Bool.and_eq_true] at h;exact fun s hs=>List.all_eq_true.1 h.1 s hs
def mE(s:cU):Bool:= !s.f1&&s.f0 !=65535
theorem P0(s:cU):iX.f s.f0 s.f1 s.f2 s.f3 s.f4=some (mE s):=by
 obtain⟨g,lv,tw,at_,ln⟩:=s;unfold iX.f mE;cases lv<;>simp
theorem JY(l:List cU)(hl:l.length≤1000000):∀(d k i:Nat),i+d=l.length→d<k→cm.l0 k l (l.length:Int) i=match (l.drop i).findIdx? mE with|some j=>some (((i+j:Nat):Int),true)|none=>some (0,false):=by
 intro d
 induction d with
 |zero=>
  intro k i hi hk;obtain⟨k,rfl⟩:∃m,k=m+1:=⟨k-1,by omega⟩;simp only[cm.l0];rw[if_neg (by omega),List.drop_of_length_le (by omega)];rfl
 |succ d ih=>
  intro k i hi hk;obtain⟨k,rfl⟩:∃m,k=m+1:=⟨k-1,by omega⟩;simp only[cm.l0];rw[List.drop_eq_getElem_cons (show i<l.length by omega),List.findIdx?_cons,if_pos (by omega),if_pos (by omega),if_pos (by omega),ze l i (by omega),P0,Option.bind_some,rh i (by omega),ih k (i+1) (by omega) (by omega)];cases h:mE l[i] with
  |true=>simp
  |false=>
   simp only[Bool.false_eq_true,if_false];cases (l.drop (i+1)).findIdx? mE with
   |none=>rfl
   |some j=>simp only[Option.map_some];congr 3;omega
theorem Gv(k:Nat)(l:List cU)(hl:l.length≤1000000)(hk:l.length<k):cm.f k l=match l.findIdx? mE with|some j=>some ((j:Int),true)|none=>some (0,false):=by
 have h:=JY l hl l.length k 0 (by omega) hk;unfold cm.f;rw[show((0:Nat):Int)=0 from rfl,List.drop_zero] at h;rw[h];simp only[Nat.zero_add]
end Go.Proofs.YtmhdcgmfbjcndaaGreatDoor.Pl
namespace Go.Proofs.YtmhdcgmfbjcndaaGreatDoor.P
open Go.RowKit Go.Proofs.aa.ag
def kX.f(a0 dO gH:Int):Option (Int×Int×Bool×Int×Int×Bool):=if dO<0 then some (0,0,false,0,0,false) else(iv.f gH).bind fun qj=>(if qj.2=true then(js.f qj.1 (Int.tmod dO 32)).bind fun P3=>(if P3.2=true then some (wrap64 (Int.tdiv dO 32),1,qj.2,qj.1,P3.1,decide ((wrap64 (Int.tdiv dO 32))<a0)) else some (wrap64 (Int.tdiv dO 32),1,qj.2,qj.1,P3.1,false)) else(e9.f gH).bind fun CN=>(if CN.2=0 then if(Int.tmod dO 32)=0 then if(wrap64 (Int.tdiv dO 32))<a0 then some (wrap64 (Int.tdiv dO 32),CN.1,qj.2,qj.1,0,decide (CN.1≤(wrap64 (a0-(wrap64 (Int.tdiv dO 32)))))) else some (wrap64 (Int.tdiv dO 32),CN.1,qj.2,qj.1,0,false) else some (wrap64 (Int.tdiv dO 32),CN.1,qj.2,qj.1,0,false) else some (wrap64 (Int.tdiv dO 32),CN.1,qj.2,qj.1,0,false)))
theorem kX.calls(a0 dO gH r1 r2:Int)(r3:Bool)(r4 r5:Int)(r6:Bool)(w:World)(h:kX.f a0 dO gH=some (r1,r2,r3,r4,r5,r6)):
 Calls Tryz.prog 132 #[.int .i64 a0,.agg #[.int .i64 dO,.int .i64 gH]] w fun e w'=>e= .returned (.tuple #[.agg #[.int .i64 r1,.int .i64 r2,.bool r3,.int .i64 r4,.int .i64 r5],.bool r6])∧Below w.heap.size w w':=by
 unfold kX.f at h
 by_cases c0:dO<0
 ·rw[if_pos c0] at h;simp only[Option.some.injEq,Prod.mk.injEq] at h;obtain⟨rfl,rfl,rfl,rfl,rfl,rfl⟩:=h;have c1:=eq_true c0;go_enter Tryz.func132,Tryz.ntmps132;go_wp2;refine bodyPost_ret (ek (rs:=[.cell 4 169,.tmp 5]) rfl (by simp) (.cell (w.heap.size+1) 169 _ (0,0) _ rfl (by rw[←World.size_alloc w (.cells #[.int .i64 dO,.int .i64 gH] 107)];exact aI _ _) Tryz.underlying169 rfl (by kernel_rfl) (.tmp .nil))) rfl ⟨rfl,ab (ab (Below.refl _ _) _) _⟩
 ·obtain⟨t,b,h1⟩:∃t b,iv.f gH=some (t,b):=by unfold iv.f;split<;>exact⟨_,_,rfl⟩
  rw[if_neg c0,h1,Option.bind_some,show Int.tmod dO 32=dO%32 from Int.tmod_eq_emod_of_nonneg (by omega)] at h;simp only at h;have c1:=eq_false c0;have H1:=ak h1;have H:=ak h;clear h1 h;go_enter Tryz.func132,Tryz.ntmps132
  go_wp2_with fail
  obtain⟨W1,fI⟩:∃X,X=(w.alloc (.cells #[.int .i64 dO,.int .i64 gH] 107)).alloc (.cells #[.int .i64 (wrap64 (Int.tdiv dO 32)),.int .i64 1,.bool false,.int .i64 0,.int .i64 0] 169):=⟨_,rfl⟩;rw[←fI];have hB:Below w.heap.size w W1:=by rw[fI];exact ab (ab (Below.refl _ _) _) _
  have d3:W1.heap[w.heap.size]? =some (.cells #[.int .i64 dO,.int .i64 gH] 107 (0,0)):=by rw[fI];exact ar (aI w _) _
  have d4:W1.heap[w.heap.size+1]? =some (.cells #[.int .i64 (wrap64 (Int.tdiv dO 32)),.int .i64 1,.bool false,.int .i64 0,.int .i64 0] 169 (0,0)):=by rw[fI,←World.size_alloc w (.cells #[.int .i64 dO,.int .i64 gH] 107)];exact aI _ _
  refine(iv.calls gH t b _ H1.1).mono ?_;rintro e w2 ⟨rfl,hb⟩;have D3:=ak (fe d3 hb);have D4:=ak (fe d4 hb);obtain⟨V,hV⟩:∃X,X=(w2.setCell ⟨w.heap.size+1,3,none⟩ (.int .i64 t)).setCell ⟨w.heap.size+1,2,none⟩ (.bool b):=⟨_,rfl⟩;have HV:=ak hV;have HB:=ak (show Below w.heap.size w V by rw[hV];exact aH (aH (bR hB hb) (by omega)) (by omega));have E4:=ak (show V.heap[w.heap.size+1]? =some (.cells #[.int .i64 (wrap64 (Int.tdiv dO 32)),.int .i64 1,.bool b,.int .i64 t,.int .i64 0] 169 (0,0)) by rw[hV];exact aQ (aQ D4.1 3 _ rfl) 2 _ rfl);have E3:=ak (show V.heap[w.heap.size]? =some (.cells #[.int .i64 dO,.int .i64 gH] 107 (0,0)) by rw[hV];exact aJ (aJ D3.1 (p:=⟨w.heap.size+1,3,none⟩) (by show w.heap.size≠w.heap.size+1;omega) _) (p:=⟨w.heap.size+1,2,none⟩) (by show w.heap.size≠w.heap.size+1;omega) _);clear fI hB d3 d4 hb hV;have z:=fun i=>ah D4.1 i;have zf:=fun i=>bn D4.1 i;have y:=fun i=>ah E4.1 i;have yf:=fun i=>bn E4.1 i;have x:=fun i=>ah E3.1 i;cases b with
  |true=>
   have h:=H.1;rw[if_pos rfl] at h
   obtain⟨c,b2,h2⟩:∃c b2,js.f t (dO%32)=some (c,b2):=by
    cases hw:js.f t (dO%32) with
    |none=>rw[hw] at h;cases h
    |some x=>exact⟨x.1,x.2,rfl⟩
   rw[h2,Option.bind_some] at h;simp only at h;have H2:=ak h2;have H3:=ak h;clear h h2
   go_wp2_with((with_reducible refine ma (N:=26) rfl ?_);rw[←HV.1])
   with_reducible refine(js.calls t (dO%32) c b2 _ H2.1).mono ?_
   rintro e w3 ⟨rfl,hb⟩;have D5:=kb E4 hb;have E5:=ak (show(w3.setCell ⟨w.heap.size+1,4,none⟩ (.int .i64 c)).heap[w.heap.size+1]? =some (.cells #[.int .i64 (wrap64 (Int.tdiv dO 32)),.int .i64 1,.bool true,.int .i64 t,.int .i64 c] 169 (0,0)) from aQ D5.1 4 _ rfl);have nS:=ak (show Below w.heap.size w (w3.setCell ⟨w.heap.size+1,4,none⟩ (.int .i64 c)) from aH (bR HB.1 hb) (by omega));clear hb z zf y yf x;have z:=fun i=>ah D5.1 i;have zf:=fun i=>bn D5.1 i;have y:=fun i=>ah E5.1 i;have yf:=fun i=>bn E5.1 i;cases b2 with
   |true=>
    have h:=H3.1;rw[if_pos rfl] at h;simp only[Option.some.injEq,Prod.mk.injEq] at h;obtain⟨rfl,rfl,rfl,rfl,rfl,rfl⟩:=h;go_wp2;refine bodyPost_ret (ek (rs:=[.cell 4 169,.tmp 5]) rfl (by simp) (.cell (w.heap.size+1) 169 _ (0,0) _ rfl (aQ (aQ (aQ (aQ (aQ E5.1 0 _ rfl) 1 _ rfl) 2 _ rfl) 3 _ rfl) 4 _ rfl) Tryz.underlying169 rfl (by kernel_rfl) (.tmp .nil))) rfl ⟨by first|rfl|simp [*],aH (aH (aH (aH (aH nS.1 (by omega)) (by omega)) (by omega)) (by omega)) (by omega)⟩
   |false=>
    have h:=H3.1;rw[if_neg (by decide)] at h;simp only[Option.some.injEq,Prod.mk.injEq] at h;obtain⟨rfl,rfl,rfl,rfl,rfl,rfl⟩:=h;go_wp2;refine bodyPost_ret (ek (rs:=[.cell 4 169,.tmp 5]) rfl (by simp) (.cell (w.heap.size+1) 169 _ (0,0) _ rfl (aQ (aQ (aQ (aQ (aQ E5.1 0 _ rfl) 1 _ rfl) 2 _ rfl) 3 _ rfl) 4 _ rfl) Tryz.underlying169 rfl (by kernel_rfl) (.tmp .nil))) rfl ⟨by first|rfl|simp [*],aH (aH (aH (aH (aH nS.1 (by omega)) (by omega)) (by omega)) (by omega)) (by omega)⟩
  |false=>
   have h:=H.1;rw[if_neg (by decide)] at h
   obtain⟨m,e2,h2⟩:∃m e2,e9.f gH=some (m,e2):=by
    cases hw:e9.f gH with
    |none=>rw[hw] at h;cases h
    |some x=>exact⟨x.1,x.2,rfl⟩
   rw[h2,Option.bind_some] at h;simp only at h;have H2:=ak h2;have H3:=ak h;clear h h2
   go_wp2_with((with_reducible refine ma (N:=26) rfl ?_);rw[←HV.1])
   with_reducible refine(e9.calls gH m e2 _ H2.1).mono ?_
   rintro e w3 ⟨rfl,hb⟩;have D5:=kb E4 hb;have D6:=kb E3 hb;have E5:=ak (show(w3.setCell ⟨w.heap.size+1,1,none⟩ (.int .i64 m)).heap[w.heap.size+1]? =some (.cells #[.int .i64 (wrap64 (Int.tdiv dO 32)),.int .i64 m,.bool false,.int .i64 t,.int .i64 0] 169 (0,0)) from aQ D5.1 1 _ rfl);have E6:=ak (show(w3.setCell ⟨w.heap.size+1,1,none⟩ (.int .i64 m)).heap[w.heap.size]? =some (.cells #[.int .i64 dO,.int .i64 gH] 107 (0,0)) from aJ D6.1 (p:=⟨w.heap.size+1,1,none⟩) (by show w.heap.size≠w.heap.size+1;omega) _);have nS:=ak (show Below w.heap.size w (w3.setCell ⟨w.heap.size+1,1,none⟩ (.int .i64 m)) from aH (bR HB.1 hb) (by omega));clear hb z zf y yf x;have z:=fun i=>ah D5.1 i;have zf:=fun i=>bn D5.1 i;have y:=fun i=>ah E5.1 i;have yf:=fun i=>bn E5.1 i;have x:=fun i=>ah E6.1 i;have h:=H3.1;clear H3;split at h
   ·rename_i k1
    have k1:=eq_true k1;split at h
    ·rename_i k2
     have k2:=eq_true k2;split at h
     ·rename_i k3
      have k3:=eq_true k3;simp only[Option.some.injEq,Prod.mk.injEq] at h;obtain⟨rfl,rfl,rfl,rfl,rfl,rfl⟩:=h;go_wp2;refine bodyPost_ret (ek (rs:=[.cell 4 169,.tmp 5]) rfl (by simp) (.cell (w.heap.size+1) 169 _ (0,0) _ rfl (aQ (aQ (aQ (aQ (aQ E5.1 0 _ rfl) 1 _ rfl) 2 _ rfl) 3 _ rfl) 4 _ rfl) Tryz.underlying169 rfl (by kernel_rfl) (.tmp .nil))) rfl ⟨by first|rfl|simp [*],aH (aH (aH (aH (aH nS.1 (by omega)) (by omega)) (by omega)) (by omega)) (by omega)⟩
     ·rename_i k3
      have k3:=eq_false k3;simp only[Option.some.injEq,Prod.mk.injEq] at h;obtain⟨rfl,rfl,rfl,rfl,rfl,rfl⟩:=h;go_wp2;refine bodyPost_ret (ek (rs:=[.cell 4 169,.tmp 5]) rfl (by simp) (.cell (w.heap.size+1) 169 _ (0,0) _ rfl (aQ (aQ (aQ (aQ (aQ E5.1 0 _ rfl) 1 _ rfl) 2 _ rfl) 3 _ rfl) 4 _ rfl) Tryz.underlying169 rfl (by kernel_rfl) (.tmp .nil))) rfl ⟨by first|rfl|simp [*],aH (aH (aH (aH (aH nS.1 (by omega)) (by omega)) (by omega)) (by omega)) (by omega)⟩
    ·rename_i k2
     have k2:=eq_false k2;simp only[Option.some.injEq,Prod.mk.injEq] at h;obtain⟨rfl,rfl,rfl,rfl,rfl,rfl⟩:=h;go_wp2;refine bodyPost_ret (ek (rs:=[.cell 4 169,.tmp 5]) rfl (by simp) (.cell (w.heap.size+1) 169 _ (0,0) _ rfl (aQ (aQ (aQ (aQ (aQ E5.1 0 _ rfl) 1 _ rfl) 2 _ rfl) 3 _ rfl) 4 _ rfl) Tryz.underlying169 rfl (by kernel_rfl) (.tmp .nil))) rfl ⟨by first|rfl|simp [*],aH (aH (aH (aH (aH nS.1 (by omega)) (by omega)) (by omega)) (by omega)) (by omega)⟩
   ·rename_i k1
    have k1:=eq_false k1;simp only[Option.some.injEq,Prod.mk.injEq] at h;obtain⟨rfl,rfl,rfl,rfl,rfl,rfl⟩:=h;go_wp2;refine bodyPost_ret (ek (rs:=[.cell 4 169,.tmp 5]) rfl (by simp) (.cell (w.heap.size+1) 169 _ (0,0) _ rfl (aQ (aQ (aQ (aQ (aQ E5.1 0 _ rfl) 1 _ rfl) 2 _ rfl) 3 _ rfl) 4 _ rfl) Tryz.underlying169 rfl (by kernel_rfl) (.tmp .nil))) rfl ⟨by first|rfl|simp [*],aH (aH (aH (aH (aH nS.1 (by omega)) (by omega)) (by omega)) (by omega)) (by omega)⟩
end Go.Proofs.YtmhdcgmfbjcndaaGreatDoor.P
namespace Go.Proofs.YtmhdcgmfbjcndaaGreatDoor.P
open Go.RowKit Go.Proofs.aa.ag Go.Proofs.aa.ao Go.Proofs.aa.ay
structure we (gy gk:Nat) (w w':World):Prop where
 os:w'.os=w.os
 tape:w'.tape=w.tape
 output:w'.output=w.output
 size:w.heap.size≤w'.heap.size
 block:∀k,k<w.heap.size→k≠gy→k≠gk→w'.heap[k]? =w.heap[k]?
theorem we.trans{gy gk:Nat}{a b c:World}(h:we gy gk a b)(k:we gy gk b c):we gy gk a c:=
 ⟨k.os.trans h.os,k.tape.trans h.tape,k.output.trans h.output,Nat.le_trans h.size k.size,fun i hi h1 h2=>(k.block i (Nat.lt_of_lt_of_le hi h.size) h1 h2).trans (h.block i hi h1 h2)⟩
theorem we.fV{gy gk:Nat}{w w':World}(h:Below w.heap.size w w'):we gy gk w w':=⟨h.os,h.tape,h.output,h.size,fun i hi _ _=>h.block i hi⟩
theorem we.drewN{gy gk:Nat}{w w':World}(h:we gy gk w w')(n:Nat):we gy gk w (w'.drewN n):=⟨h.os,h.tape,h.output,h.size,h.block⟩
theorem we.set{gy gk:Nat}{w w':World}(h:we gy gk w w'){g:Nat}(hg:g=gy∨g=gk)(i:Nat)(v:Value):we gy gk w (w'.setCell ⟨g,i,none⟩ v):=
 h.trans ⟨rfl,rfl,rfl,by simp [World.setCell],fun k hk h1 h2=>Below.heap_setCell _ _ _ _ (by rcases hg with rfl|rfl<;>assumption)⟩
theorem we.below{gy gk B:Nat}{w w':World}(h:we gy gk w w')(hB:B≤w.heap.size)(h1:B≤gy)(h2:B≤gk):Below B w w':=
 ⟨h.os,h.tape,h.output,h.size,fun k hk=>h.block k (by omega) (by omega) (by omega)⟩
def ZL(gk n:Nat)(cs:List Nat):Array Value:=(Value.slice (some ⟨gk,0,none⟩) n n::cs.map fun(c:Nat)=>Value.int .u64 (c:Int)).toArray
structure Lay (W:World) (gy gk:Nat) (ks:List Int) (cs:List Nat):Prop where
 y:W.heap[gy]? =some (.cells (ZL gk ks.length cs) 114 (0,0))
 k:W.heap[gk]? =some (.cells (kB (Value.int .i64) ks).toArray 3 (0,0))
 ne:gy≠gk
 lc:cs.length=64
 lk:ks.length≤64
 bd:∀c∈cs,c<18446744073709551616
theorem Lay.head{W:World}{gy gk:Nat}{ks:List Int}{cs:List Nat}(h:Lay W gy gk ks cs):W.cell? ⟨gy,0,none⟩=some (.slice (some ⟨gk,0,none⟩) ks.length ks.length):=(ah h.y 0).trans rfl
theorem Lay.cell{W:World}{gy gk:Nat}{ks:List Int}{cs:List Nat}(h:Lay W gy gk ks cs)(p:Nat)(hp:p<64):W.cell? ⟨gy,1+p,none⟩=some (.int .u64 ((cs.getD p 0:Nat):Int)):=by
 rw[ah h.y (1+p),ZL,List.getElem?_toArray,Nat.add_comm 1 p,List.getElem?_cons_succ,List.getElem?_map,List.getElem?_eq_getElem (by rw[h.lc];exact hp),List.getD_eq_getElem?_getD,List.getElem?_eq_getElem (by rw[h.lc];exact hp)];rfl
theorem Lay.kind{W:World}{gy gk:Nat}{ks:List Int}{cs:List Nat}(h:Lay W gy gk ks cs)(p:Nat)(hp:p<ks.length):W.cell? ⟨gk,p,none⟩=some (.int .i64 (ks.getD p 0)):=by
 rw[ah h.k p,List.getElem?_toArray];exact O5 ks p hp
theorem Lay.fy{W:World}{gy gk:Nat}{ks:List Int}{cs:List Nat}(h:Lay W gy gk ks cs)(i:Nat):W.frozen? ⟨gy,i,none⟩=false:=bn h.y i
theorem Lay.fk{W:World}{gy gk:Nat}{ks:List Int}{cs:List Nat}(h:Lay W gy gk ks cs)(i:Nat):W.frozen? ⟨gk,i,none⟩=false:=bn h.k i
theorem Lay.same{W W':World}{gy gk:Nat}{ks:List Int}{cs:List Nat}(h:Lay W gy gk ks cs)(e1:W'.heap[gy]? =W.heap[gy]?)(e2:W'.heap[gk]? =W.heap[gk]?):Lay W' gy gk ks cs:=⟨e1.trans h.y,e2.trans h.k,h.ne,h.lc,h.lk,h.bd⟩
theorem Lay.below{W W':World}{gy gk:Nat}{ks:List Int}{cs:List Nat}(h:Lay W gy gk ks cs)(hb:Below W.heap.size W W'):Lay W' gy gk ks cs:=h.same (hb.block _ (aN h.y)) (hb.block _ (aN h.k))
theorem Lay.drewN{W:World}{gy gk:Nat}{ks:List Int}{cs:List Nat}(h:Lay W gy gk ks cs)(n:Nat):Lay (W.drewN n) gy gk ks cs:=h.same rfl rfl
theorem Lay.alloc{W:World}{gy gk:Nat}{ks:List Int}{cs:List Nat}(h:Lay W gy gk ks cs)(o:Obj):Lay (W.alloc o) gy gk ks cs:=h.below (ab (Below.refl _ _) o)
theorem Lay.setCells{W:World}{gy gk:Nat}{ks:List Int}{cs:List Nat}(h:Lay W gy gk ks cs)(p c:Nat)(hc:c<18446744073709551616):Lay (W.setCell ⟨gy,1+p,none⟩ (.int .u64 (c:Int))) gy gk ks (cs.set p c):=by
 refine⟨(kf h.y (1+p) _).trans ?_,(Below.heap_setCell _ _ _ _ (fun e=>h.ne e.symm)).trans h.k,h.ne,by rw[List.length_set];exact h.lc,h.lk,fun x hx=>?_⟩
 ·congr 2
  unfold ZL;rw[List.setIfInBounds_toArray,Nat.add_comm 1 p,List.set_cons_succ,List.map_set]
 ·rcases List.mem_or_eq_of_mem_set hx with h1|rfl
  ·exact h.bd _ h1
  ·exact hc
theorem Lay.setKind{W:World}{gy gk:Nat}{ks:List Int}{cs:List Nat}(h:Lay W gy gk ks cs)(p:Nat)(c:Int):Lay (W.setCell ⟨gk,p,none⟩ (.int .i64 c)) gy gk (ks.set p c) cs:=by
 refine⟨(Below.heap_setCell _ _ _ _ h.ne).trans ?_,(kf h.k p _).trans ?_,h.ne,h.lc,by rw[List.length_set];exact h.lk,h.bd⟩
 ·rw[List.length_set];exact h.y
 ·congr 2
  unfold kB;rw[List.setIfInBounds_toArray,List.map_set]
theorem AJ{ce:Nat}(h:ce<64):2^ce<18446744073709551616:=Nat.lt_of_lt_of_le (Nat.pow_lt_pow_right (by decide) h) (by decide)
theorem th{ce:Nat}(h:ce<64):IntKind.u64.wrap (2^ce)=((2^ce:Nat):Int):=by
 have h1:=AJ h;have h2:((2:Int)^ce)=((2^ce:Nat):Int):=by rw[Int.natCast_pow];rfl
 rw[h2];generalize 2^ce=b at h1;unfold IntKind.wrap;simp [IntKind.signed,IntKind.bits];omega
theorem P4(gy gk:Nat)(ks:List Int)(cs:List Nat)(p:Nat)(ct cl:Int)(ce:Nat)(w:World)(h:Lay w gy gk ks cs)(hp:p<ks.length)(Ng:ce<64)(hk:(ks.getD p 0==cl)=true)(nB:(cs.getD p 0&&&2^ce)=0):
 Calls Tryz.prog 86 #[.pointer (some ⟨gy,0,none⟩),.agg #[.int .i64 p,.int .i64 ct,.bool true,.int .i64 cl,.int .i64 ce]] w fun e w'=>e= .returned (.bool true)∧Lay w' gy gk ks (cs.set p (cs.getD p 0|||2^ce))∧we gy gk w w':=by
 have h0:=h.head;have h1:=h.cell p (by have:=h.lk;omega);have h2:=h.kind p hp;have hlk:=h.lk;have Xa:=aN h.y;have ZM:=aN h.k;have f1:=h.fy (1+p)
 have P5:cs.getD p 0<18446744073709551616:=by
  rw[List.getD_eq_getElem?_getD,List.getElem?_eq_getElem (by rw[h.lc];omega)];exact h.bd _ (List.getElem_mem _)
 have Nh:=th Ng;have Gx:=AJ Ng;have oM:=ak (Nat.or_lt_two_pow (n:=64) P5 Gx);have hor:=bits_or_u64_nat _ _ P5 Gx;have hand:=bits_and_u64_nat _ _ P5 Gx;rw[nB] at hand;generalize hc:cs.getD p 0=c at h1 hor hand oM⊢;generalize Ue:2^ce=bt at Nh hor hand oM⊢;generalize ks.getD p 0=kk at h2 hk;have HL:=ak h;clear h hc Gx Ue P5 nB;go_enter Tryz.func86,Tryz.ntmps86;go_wp2;go_quiet (fail);go_wp2;go_region
 go_wp2;go_ret;refine⟨rfl,?_,?_⟩
 ·exact((HL.1.alloc _).drewN _).setCells p _ oM.1
 ·exact((we.fV (ab (Below.refl _ _) _)).drewN _).set (.inl rfl) _ _
theorem Uf(gy gk:Nat)(ks:List Int)(cs:List Nat)(p:Nat)(ct cl:Int)(ce:Nat)(w:World)(h:Lay w gy gk ks cs)(hp:p<ks.length)(Ng:ce<64)(hk:(ks.getD p 0==cl)=false)(hf:(ks.getD p 0== -1)=true):
 Calls Tryz.prog 86 #[.pointer (some ⟨gy,0,none⟩),.agg #[.int .i64 p,.int .i64 ct,.bool true,.int .i64 cl,.int .i64 ce]] w fun e w'=>e= .returned (.bool true)∧Lay w' gy gk (ks.set p cl) (cs.set p (2^ce))∧we gy gk w w':=by
 have h0:=h.head;have h1:=h.cell p (by have:=h.lk;omega);have h2:=h.kind p hp;have hlk:=h.lk;have Xa:=aN h.y;have ZM:=aN h.k;have f1:=h.fy (1+p);have f2:=h.fk p
 have P5:cs.getD p 0<18446744073709551616:=by
  rw[List.getD_eq_getElem?_getD,List.getElem?_eq_getElem (by rw[h.lc];omega)];exact h.bd _ (List.getElem_mem _)
 have Nh:=th Ng;have Gx:=AJ Ng;have HNE:=ak h.ne;have atB:=ak (fun e:gk=gy=>h.ne e.symm);generalize hc:cs.getD p 0=c at h1;generalize Ue:2^ce=bt at Nh Gx⊢;generalize ks.getD p 0=kk at h2 hk hf;have HBL:=ak Gx;have HL:=ak h;clear h hc Gx Ue P5;go_enter Tryz.func86,Tryz.ntmps86;go_wp2;go_quiet (fail);go_wp2;go_quiet (fail);go_wp2;go_region
 go_wp2;go_ret;refine⟨rfl,?_,?_⟩
 ·first
   |exact(((HL.1.alloc _).drewN _).setKind p cl).setCells p _ HBL.1
   |exact(((HL.1.alloc _).drewN _).setCells p _ HBL.1).setKind p cl
 ·first
   |exact(((we.fV (ab (Below.refl _ _) _)).drewN _).set (.inr rfl) _ _).set (.inl rfl) _ _
   |exact(((we.fV (ab (Below.refl _ _) _)).drewN _).set (.inl rfl) _ _).set (.inr rfl) _ _
theorem Nl(gy gk:Nat)(ks:List Int)(cs:List Nat)(p:Nat)(ct cl:Int)(ce:Nat)(w:World)(h:Lay w gy gk ks cs)(hp:p<ks.length)(Ng:ce<64)(hk:(ks.getD p 0==cl)=true)(hf:(ks.getD p 0== -1)=false)(hz:cs.getD p 0&&&2^ce≠0):
 Calls Tryz.prog 86 #[.pointer (some ⟨gy,0,none⟩),.agg #[.int .i64 p,.int .i64 ct,.bool true,.int .i64 cl,.int .i64 ce]] w fun e w'=>e= .returned (.bool false)∧we gy gk w w':=by
 have h0:=h.head;have h1:=h.cell p (by have:=h.lk;omega);have h2:=h.kind p hp;have hlk:=h.lk;have Xa:=aN h.y;have ZM:=aN h.k;have f1:=h.fy (1+p);have f2:=h.fk p
 have P5:cs.getD p 0<18446744073709551616:=by
  rw[List.getD_eq_getElem?_getD,List.getElem?_eq_getElem (by rw[h.lc];omega)];exact h.bd _ (List.getElem_mem _)
 have Nh:=th Ng;have Gx:=AJ Ng;have hand:=bits_and_u64_nat _ _ P5 Gx
 have hnz:(bits .and .u64 ((cs.getD p 0:Nat):Int) ((2^ce:Nat):Int)==0)=false:=by
  rw[hand,beq_eq_false_iff_ne];intro e;exact hz (by omega)
 clear hand hz;generalize hc:cs.getD p 0=c at h1 hnz;generalize Ue:2^ce=bt at Nh hnz;generalize ks.getD p 0=kk at h2 hk hf;clear h hc Gx Ue P5;go_enter Tryz.func86,Tryz.ntmps86;go_wp2;go_quiet (fail);go_wp2;go_quiet (fail);go_wp2;go_ret;exact⟨rfl,(we.fV (ab (Below.refl _ _) _)).drewN _⟩
theorem Nn(gy gk:Nat)(ks:List Int)(cs:List Nat)(p:Nat)(ct cl:Int)(ce:Nat)(w:World)(h:Lay w gy gk ks cs)(hp:p<ks.length)(Ng:ce<64)(hk:(ks.getD p 0==cl)=false)(hf:(ks.getD p 0== -1)=false):
 Calls Tryz.prog 86 #[.pointer (some ⟨gy,0,none⟩),.agg #[.int .i64 p,.int .i64 ct,.bool true,.int .i64 cl,.int .i64 ce]] w fun e w'=>e= .returned (.bool false)∧we gy gk w w':=by
 have h0:=h.head;have h1:=h.cell p (by have:=h.lk;omega);have h2:=h.kind p hp;have hlk:=h.lk;have Xa:=aN h.y;have ZM:=aN h.k;have f1:=h.fy (1+p);have f2:=h.fk p
 have P5:cs.getD p 0<18446744073709551616:=by
  rw[List.getD_eq_getElem?_getD,List.getElem?_eq_getElem (by rw[h.lc];omega)];exact h.bd _ (List.getElem_mem _)
 have Nh:=th Ng;have Gx:=AJ Ng;generalize hc:cs.getD p 0=c at h1;generalize Ue:2^ce=bt at Nh;generalize ks.getD p 0=kk at h2 hk hf;clear h hc Gx Ue P5;go_enter Tryz.func86,Tryz.ntmps86;go_wp2;go_quiet (fail);go_wp2;go_quiet (fail);go_wp2;go_ret;exact⟨rfl,(we.fV (ab (Below.refl _ _) _)).drewN _⟩
def tj(ks:List Int)(p:Nat):Nat→List Int
 |0=>ks
 |k+1=>(tj ks p k).set (p+k) 7
theorem jF(ks:List Int)(p:Nat):∀k,(tj ks p k).length=ks.length
 |0=>rfl
 |k+1=>by show((tj ks p k).set (p+k) 7).length=_;rw[List.length_set,jF ks p k]
theorem rj(ks:List Int)(p:Nat):∀(k i:Nat),(tj ks p k).getD i 0=if p≤i∧i<p+k∧i<ks.length then 7 else ks.getD i 0
 |0,i=>by rw[if_neg (by omega)];rfl
 |k+1,i=>by
  show((tj ks p k).set (p+k) 7).getD i 0=_;rw[List.getD_eq_getElem?_getD,List.getElem?_set]
  by_cases h:p+k=i
  ·rw[if_pos h,jF]
   by_cases h2:p+k<ks.length
   ·rw[if_pos h2,if_pos (by omega)];rfl
   ·rw[if_neg h2,if_neg (by omega),List.getD_eq_getElem?_getD,List.getElem?_eq_none (by omega)]
  ·rw[if_neg h,←List.getD_eq_getElem?_getD,rj ks p k i]
   by_cases h2:p≤i∧i<p+k∧i<ks.length
   ·rw[if_pos h2,if_pos (by omega)]
   ·rw[if_neg h2,if_neg (by omega)]
def ql(ks:List Int)(p:Nat):Nat→Bool
 |0=>true
 |k+1=>ql ks p k&&ks.getD (p+k) 0== -1
theorem AK{ks:List Int}{p:Nat}:∀{k i:Nat},ql ks p k=true→i<k→ks.getD (p+i) 0= -1
 |k+1,i,h,hi=>by
  simp only[ql,Bool.and_eq_true,beq_iff_eq] at h
  by_cases e:i=k
  ·rw[e];exact h.2
  ·exact AK h.1 (by omega)
theorem Gy{ks:List Int}{p:Nat}:∀{k i:Nat},i<k→(ks.getD (p+i) 0== -1)=false→ql ks p k=false
 |k+1,i,hi,h=>by
  simp only[ql]
  by_cases e:i=k
  ·rw[←e,h,Bool.and_false]
  ·rw[Gy (k:=k) (i:=i) (by omega) h,Bool.false_and]
theorem P6(gy gk:Nat)(ks:List Int)(cs:List Nat)(p ct:Nat)(cl:Int)(ce:Nat)(w:World)(h:Lay w gy gk ks cs)(hp:p<ks.length)(hct:p+ct≤ks.length)(Ng:ce<64):
 Calls Tryz.prog 86 #[.pointer (some ⟨gy,0,none⟩),.agg #[.int .i64 p,.int .i64 ct,.bool false,.int .i64 cl,.int .i64 ce]] w fun e w'=>e= .returned (.bool (ql ks p ct))∧(ql ks p ct=true→Lay w' gy gk ((tj ks p ct).set p 6) cs)∧we gy gk w w':=by
 have hlk:=h.lk;have Xa:=aN h.y;have ZM:=aN h.k;have h0:=h.head;have Nh:=th Ng;generalize 2^ce=bt at Nh;have HL:=ak h;clear h;go_enter Tryz.func86,Tryz.ntmps86;go_wp2;go_quiet (fail);go_wp2;go_quiet (fail);go_wp2
 go_loopw [85] (fun v85 wr=>∃k:Nat,v85= .int .i64 k∧k≤ct∧ae (ql ks p k=true)∧ae (Lay wr gy gk (tj ks p k) cs)∧ae (wr.heap[w.heap.size]? =some (.cells #[.int .i64 p,.int .i64 ct,.bool false,.int .i64 cl,.int .i64 ce] 169 (0,0)))∧ae (we gy gk w wr)) (fun v85 _=>ct-(intOf v85).toNat)
 case atStart=>exact⟨0,rfl,Nat.zero_le _,⟨rfl⟩,⟨(HL.1.alloc _).drewN _⟩,⟨cW (aI _ _) _⟩,⟨(we.fV (ab (Below.refl _ _) _)).drewN _⟩⟩
 case round=>
  obtain⟨k,rfl,hk,HF,LC,HG,HT⟩:=hrel;have s0:wr.cell? ⟨w.heap.size,0,none⟩=some (.int .i64 p):=cL HG 0;have h0:=LC.1.head;rw[jF] at h0
  by_cases cX:k<ct
  ·have P7:=LC.1.kind (p+k) (by rw[jF];omega);rw[rj,if_neg (by omega)] at P7;have atC:IntKind.i64.wrap ((p:Int)+(k:Int))=(p:Int)+(k:Int):=by rw[bp];unfold wrap64;omega
   have b0:(0:Int)≤(p:Int)+(k:Int):=by omega
   have b1:(p:Int)+(k:Int)<ks.length:=by omega
   have b2:((p:Int)+(k:Int)).toNat=p+k:=by omega
   have b3:p+k<ks.length:=by omega
   have hfz:=LC.1.fk (p+k);cases hc:(ks.getD (p+k) 0== -1) with
   |true=>
    have HE:=ak (show ql ks p (k+1)=true by simp only[ql,HF.1,hc];rfl);have hcn:(ks.getD (p+k) 0 != -1)=false:=by rw[bne,hc];rfl
    generalize ks.getD (p+k) 0=kk at P7 hc hcn;go_wp2;go_quiet (fail);go_wp2;go_region
    go_wp2
    go_roundw
    case rel=>
     refine⟨k+1,by go_num,cX,HE,⟨?_⟩,⟨?_⟩,⟨?_⟩⟩
     ·exact(LC.1.drewN _).setKind (p+k) 7
     ·exact aJ (cW HG.1 _) (fun e=>by simp only at e;omega) _
     ·exact(HT.1.drewN _).set (.inr rfl) _ _
    case measure=>simp [intOf];omega
   |false=>
    have HE:=ak (Gy (k:=ct) cX hc);have hcn:(ks.getD (p+k) 0 != -1)=true:=by rw[bne,hc];rfl
    generalize ks.getD (p+k) 0=kk at P7 hc hcn;go_wp2;go_quiet (fail);go_wp2;go_ret;rw[HE.1];exact⟨rfl,(fun z=>Bool.noConfusion z),HT.1.drewN _⟩
  ·obtain rfl:k=ct:=by omega
   have hfz:=LC.1.fk p;have ZN:=LC.1.kind p (by rw[jF];exact hp);go_wp2;go_region
   go_wp2;go_ret;rw[HF.1];exact⟨rfl,(fun _=>(LC.1.drewN _).setKind p 6),(HT.1.drewN _).set (.inr rfl) _ _⟩
abbrev AL:=Int×Int×Bool×Int×Int×Bool
def kp(s:AL)(ks:List Int)(cs:List Nat):Option (List Int×List Nat):=
 if s.2.2.1=true then
  if rd ks s.1=s.2.2.2.1∧cs.getD s.1.toNat 0&&&2^s.2.2.2.2.1.toNat=0 then some (ks,cs.set s.1.toNat (cs.getD s.1.toNat 0|||2^s.2.2.2.2.1.toNat))
  else if rd ks s.1= -1 then some (ks.set s.1.toNat s.2.2.2.1,cs.set s.1.toNat (2^s.2.2.2.2.1.toNat))
  else none
 else if ql ks s.1.toNat s.2.1.toNat=true then some ((tj ks s.1.toNat s.2.1.toNat).set s.1.toNat 6,cs) else none
structure P8 (s:AL) (n:Nat):Prop where
 p0:0≤s.1
 p1:s.1<n
 c0:0≤s.2.1
 c1:s.1+s.2.1≤n
 e0:0≤s.2.2.2.2.1
 e1:s.2.2.2.2.1<64
 k0:0≤s.2.2.2.1
def Gz(s:AL):Value:= .agg #[.int .i64 s.1,.int .i64 s.2.1,.bool s.2.2.1,.int .i64 s.2.2.2.1,.int .i64 s.2.2.2.2.1]
theorem Np(gy gk:Nat)(ks:List Int)(cs:List Nat)(s:AL)(w:World)(h:Lay w gy gk ks cs)(hs:P8 s ks.length):
 Calls Tryz.prog 86 #[.pointer (some ⟨gy,0,none⟩),Gz s] w fun e w'=>e= .returned (.bool (kp s ks cs).isSome)∧(∀r,kp s ks cs=some r→Lay w' gy gk r.1 r.2)∧we gy gk w w':=by
 obtain⟨p,ct,sm,cl,ce,is⟩:=s;obtain⟨p0,p1,c0,c1,e0,e1,k0⟩:=hs;simp only at p0 p1 c0 c1 e0 e1 k0;obtain⟨p,rfl⟩:∃q:Nat,p=(q:Int):=⟨p.toNat,by omega⟩;obtain⟨ct,rfl⟩:∃q:Nat,ct=(q:Int):=⟨ct.toNat,by omega⟩;obtain⟨ce,rfl⟩:∃q:Nat,ce=(q:Int):=⟨ce.toNat,by omega⟩;have Zy:p<ks.length:=by omega
 unfold kp Gz;simp only[Int.toNat_natCast];cases sm with
 |true=>
  rw[if_pos rfl];have SR:rd ks (p:Int)=ks.getD p 0:=by unfold rd;rw[Int.toNat_natCast]
  rw[SR]
  by_cases h1:ks.getD p 0=cl
  ·by_cases h2:cs.getD p 0&&&2^ce=0
   ·rw[if_pos ⟨h1,h2⟩];exact(P4 gy gk ks cs p ct cl ce w h Zy (by omega) (by rw[h1];exact beq_self_eq_true _) h2).mono fun e w' ⟨a1,a2,a3⟩=>⟨a1,(fun r hr=>by obtain rfl:=Option.some.inj hr;exact a2),a3⟩
   ·rw[if_neg (fun z=>h2 z.2),if_neg (by omega)];exact(Nl gy gk ks cs p ct cl ce w h Zy (by omega) (by rw[h1];exact beq_self_eq_true _) (beq_eq_false_iff_ne.2 (by omega)) h2).mono fun e w' ⟨a1,a3⟩=>⟨a1,(fun r hr=>by cases hr),a3⟩
  ·rw[if_neg (fun z=>h1 z.1)]
   by_cases h2:ks.getD p 0= -1
   ·rw[if_pos h2];exact(Uf gy gk ks cs p ct cl ce w h Zy (by omega) (beq_eq_false_iff_ne.2 h1) (by rw[h2];rfl)).mono fun e w' ⟨a1,a2,a3⟩=>⟨a1,(fun r hr=>by obtain rfl:=Option.some.inj hr;exact a2),a3⟩
   ·rw[if_neg h2];exact(Nn gy gk ks cs p ct cl ce w h Zy (by omega) (beq_eq_false_iff_ne.2 h1) (beq_eq_false_iff_ne.2 h2)).mono fun e w' ⟨a1,a3⟩=>⟨a1,(fun r hr=>by cases hr),a3⟩
 |false=>
  rw[if_neg (by decide)];refine(P6 gy gk ks cs p ct cl ce w h Zy (by omega) (by omega)).mono fun e w' ⟨a1,a2,a3⟩=>?_
  by_cases hf:ql ks p ct=true
  ·rw[if_pos hf];rw[hf] at a1;exact⟨a1,(fun r hr=>by obtain rfl:=Option.some.inj hr;exact a2 hf),a3⟩
  ·rw[if_neg hf];rw[Bool.not_eq_true] at hf;rw[hf] at a1;exact⟨a1,(fun r hr=>by cases hr),a3⟩
end Go.Proofs.YtmhdcgmfbjcndaaGreatDoor.P
