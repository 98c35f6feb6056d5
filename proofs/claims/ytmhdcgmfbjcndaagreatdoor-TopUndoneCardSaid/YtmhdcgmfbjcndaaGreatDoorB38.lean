import Derived.Test.YtmhdcgmfbjcndaaGreatDoorB37
import Derived.WalkMore
import Derived.WideMake
set_option linter.unusedVariables false
set_option linter.unusedSimpArgs false
set_option maxRecDepth 100000
set_option maxHeartbeats 8000000
namespace Go.Proofs.YtmhdcgmfbjcndaaGreatDoor.P
open Go.RowKit Go.Shelf Go.Proofs.aa.ag Go.Proofs.aa.ao Go.Proofs.aa.ay
attribute [local go_sem] Oper.semAt_some
attribute [local go_sem↓] Go.wp_at_zero Go.wp_at_succ
theorem R5:(Tryz.prog.info? 271).map (fun i=>(i.zero,i.size,i.bytes))=some (some (.agg #[.int .i64 0,.int .i64 0]),2,16):=by kernel_rfl
structure abw (w:World) (s:Value):Prop where
 has:∃(g c gp cp:Nat)(cur uk:Array Value)(v:Value),s= .slice (some ⟨g,0,none⟩) 1 c∧w.heap[g]? =some (.cells cur 247 (0,0))∧cur[0]? =some v∧BI w (.slice (some ⟨gp,0,none⟩) 1 cp) v∧uI w gp uk
theorem Fv(g c:Nat)(cur:Array Value)(w:World)(h:ID w g cur):
 Calls Tryz.prog 159 #[.slice (some ⟨g,0,none⟩) 1 c] w fun e w'=>∃s,e= .returned s∧abw w' s∧Below w.heap.size w w':=by
 have x0:=(ah h.hh 0).trans h.c0;have x1:=(ah h.hh 1).trans h.c1;have x2:=(ah h.hh 2).trans h.c2;have cX:=aN h.hh;clear h;go_enter Tryz.func159,Tryz.ntmps159;go_wp2
 go_step3
 go_wp2;refine wp_loop_rounds 2 ?_;rw[rounds_succ]
 go_wp2_with((with_reducible refine gd 27 ?_);refine jy (w0:=w) (W:=w.alloc (.cells #[.int .i64 0,.int .i64 2,.int .i64 2] 241)) w.heap.size rfl (.tmp 16) (.tmp 26) 249 271 _ 2 16 rfl Tryz.underlying249 R5 rfl (by decide) (by decide) (.slice none 0 0) 0 [] [.int .i64 0,.int .i64 10] rfl (by simp only[World.size_alloc];rfl) rfl (by simp [Value.oneCell']) (pP _ _ _ _) (ab (Below.refl _ _) _) (by simp) (by decide) ?_;intro v1 w1 ho im zp dH;have HO:=ak ho;have HB:=ak im;clear ho im zp dH)
 obtain⟨gp,cp,uk,rfl,ZO,hhp,Ib,yR⟩:=Fq HO.1;have P1:=ak (show uI w1 gp uk from⟨hhp,yR 0 _ rfl,yR 1 _ rfl⟩);have HCP:=ak Ib;clear ZO hhp yR HO x0 x1 x2 cX Ib;rw[rounds_succ]
 go_wp2_with fail
 go_at_call 179
 refine(KV gp cp _ HCP.1).mono ?_;rintro e w2 ⟨s,rfl,hn,iq⟩;have HN:=ak hn;have nS:=ak (bR HB.1 iq);have P2:=ak (P1.1.below iq);clear hn iq;obtain⟨gn,cn,agR,rfl,n1,n2,n3,n4⟩:=HN.1.has;go_wp2;have hL:=aI w2 (.cells #[.slice (some ⟨gn,0,none⟩) 1 cn] 247);have l0:=(ah hL 0).trans rfl;have HL:=ak hL;clear hL
 go_step3
 go_wp2;refine wp_loop_rounds 1 ?_;rw[rounds_succ];go_wp2;rw[Exit.noGoto_ret];go_ret;have rQ:=ab (Below.refl w2.heap.size w2) (.cells #[.slice (some ⟨gn,0,none⟩) 1 cn] 247);exact⟨_,rfl,⟨_,_,gp,1,_,uk,_,rfl,HL.1,rfl,HN.1.below rQ,P2.1.below rQ⟩,bR nS.1 rQ⟩
def R6(v:Value)(_:Unit):Array Value:= #[.int .i64 0,v]
theorem zl(m:Nat)(hm:2≤m)(gs g c:Nat)(cur:Array Value)(v:Value)(w:World)(hs:w.heap[gs]? =some (.cells #[.slice (some ⟨g,0,none⟩) 1 c] 246 (0,0)))(hg:w.heap[g]? =some (.cells cur 247 (0,0)))(hv:cur[0]? =some v)(hvv:∃A n c,v= .slice A n c):
 SeqStopsK Fence.wide m Tryz.prog 178 #[.pointer (some ⟨gs,0,none⟩)] (R6 v) KpT (fun ys=>ys=[()]) (fun pre=>pre<+:[()]) 1 w:=by
 intro l J Jx W hW hJ _ hY h0;obtain⟨A,n,cc,rfl⟩:=hvv;have s0:=(ah ((hW.block _ (aN hs)).trans hs) 0).trans rfl;have g0:=(ah ((hW.block _ (aN hg)).trans hg) 0).trans hv;have HY:=ak hY;have HJ:=ak hJ;have H0:=ak h0;clear hY hJ h0 hs hg hv hW;refine callsIn_of_wp Tryz.func178 rfl trivial ?_ rfl;simp only[Tryz.ntmps178,List.size_toArray,List.length_cons,List.length_nil,Nat.reduceAdd,Nat.reduceSub,Array.replicate_succ,Array.replicate_zero,List.push_toArray,List.append_toArray,List.nil_append,List.cons_append];gi_wp2
 refine wpIn_loop_rounds 2 ?_;rw[roundsIn_succ];obtain⟨fn,tmps,assign,body,hy,hR⟩:=HY.1 [] () W H0.1 (by decide);unfold R6 at hy;gi_wp2
 refine⟨fun _=>by omega,hR.mono ?_⟩;rintro e W3 (⟨rfl,Nu,Qb⟩|⟨rfl,xM⟩)
 ·gi_wp2
  rw[roundsIn_succ];gi_wp2
  go_end0
  exact⟨⟨_,rfl⟩,.inl ⟨_,rfl,Nu⟩⟩
 ·gi_wp2
  refine bodyPost_ret (results_none rfl _ _ _) rfl ?_;exact⟨⟨_,rfl⟩,.inr ⟨_,List.prefix_refl _,xM⟩⟩
theorem BJ(A:Option Addr)(n c:Nat)(w:World):
 Calls Tryz.prog 158 #[.slice A n c] w fun e w'=>e= .returned (.func (.func 178) #[] #[.pointer (some ⟨w.heap.size,0,none⟩)])∧w'=w.alloc (.cells #[.slice A n c] 246):=by
 have ON:∀(fn:Fn)(first cap:Array Value)(w:World),(Instr.makeFunc fn first cap).run Tryz.prog w= .ok (.func fn first cap) w:=fun _ _ _ _=>rfl;go_enter Tryz.func158,Tryz.ntmps158;go_wp2;go_ret;exact⟨rfl,rfl⟩
end Go.Proofs.YtmhdcgmfbjcndaaGreatDoor.P
namespace Go.Proofs.YtmhdcgmfbjcndaaGreatDoor.P
open Go.RowKit Go.Shelf Go.Proofs.aa.ag Go.Proofs.aa.ao Go.Proofs.aa.ay
attribute [local go_sem] Oper.semAt_some
attribute [local go_sem↓] Go.wp_at_zero Go.wp_at_succ
section
variable {P:Program}{ops:Array Oper}{o:Oper}{a:Act}{Q:Exit→Act→World→Prop}{Kc:Act→World→Prop}
theorem jV{W:World}(base:Nat)(hw:Region.wanted o (yielded ops a.tmps)=true)(s x:Operand)(t e:TypeId)(z:Value)(size bytes:Nat)
 (ho:o.op= .call {callee:= .builtin .append,args:= #[s,x],argTypes:= #[t,t]})
 (ht:P.underlying t=some (.slice e)) (kE:(P.info? e).map (fun i=>(i.zero,i.size,i.bytes))=some (some z,size,bytes)) (hz:z.cells.size=size) (qC:0<size)
 (v:Value) (n:Nat) (xs:List Value) (hs:a.eval s=v) (HO:W.ownsRow base e size v n xs) (ad:Addr) (m c:Nat) (news:List Value) (hx:a.eval x= .slice (some ad) m c)
 (hl:news.length=m*size) (Ge:∀j u,news[j]? =some u→W.cell? (ad.add j)=some u) (h1:∀u∈news,u.oneCell'=true) (h63:n+m≤maxLen) (Ao:(n+m)*bytes≤140737488355328) (eQ:base≤W.heap.size)
 (h:∀v1 w1,w1.ownsRow base e size v1 (n+m) (xs++news)→W.grownBy w1 v.ownBlock→Kc (a.put o.dst v1) w1):if Region.wanted o (yielded ops a.tmps)=true then Oper.wp P o a W Kc Q else Kc (a.put o.dst undef) W:=by
 obtain⟨i0,hi,zZ⟩:=Option.map_eq_some_iff.1 kE;simp only[Prod.mk.injEq] at zZ;obtain⟨yY,yZ,vn⟩:=zZ;obtain⟨v1,w1,iI,h2,hg,_,dH⟩:=run_append_own_at (P:=P) W base t o.type e i0 z size bytes ht hi yY yZ vn hz qC v n xs HO ad m c news hl Ge h1 h63 Ao eQ;rw[if_pos hw];unfold Oper.wp execOp;simp only[ho,resolve,invoke,builtin,Sem.run_bind,Sem.run_pure,Result.andThen_ok,List.map_toArray,List.map_cons,List.map_nil,hs,hx,iI];exact h v1 w1 h2 hg
theorem C6{n:Nat}{o:Oper}{a:Act}{K:Act→World→Prop}{r:Result Next}(h:o.upon P a K Q r):o.uponIn Fence.wide n P a K Q r:=by
 cases r with
 |ok x w'=>
  cases x with
  |value v=>exact h
  |skip=>exact h
  |defer d=>exact h
  |enter f args=>
   refine⟨?_,?_⟩
   ·intro hq;cases hq
   ·exact callsIn_wide.2 h
  |row r args=>
   refine⟨?_,?_⟩
   ·intro hq;cases hq
   ·intro c cs hq;obtain⟨v,w',r,s⟩:=h c cs;exact⟨v,w',r,stepsIn_wide.2 s⟩
  |_=>exact h.elim
 |halt x w'=>cases x<;>exact h
theorem qI{n:Nat}(hl:¬LetsOut Q):∀(L:List Oper)(a:Act)(w:World),xb L=true→wpList P ops Q L a w→wpListIn Fence.wide n P ops Q L a w
 |[],_,_,_,h=>h
 |o::rest,a,w,hd,h=>by
  have BT:∀c,o.op≠.defer c:=by
   intro c hc;have h1:=List.all_eq_true.1 hd o (by simp);rw[hc] at h1;cases h1
  have zd:xb rest=true:=List.all_eq_true.2 fun x hx=>List.all_eq_true.1 hd x (by simp [hx]);unfold wpList at h;unfold wpListIn
  by_cases hw:Region.wanted o (yielded ops a.tmps)=true
  ·rw[if_pos hw] at h⊢;rcases h with h|h
   ·refine⟨fun _ _=>trivial,?_⟩;rw[Oper.semAt_plain _ _ _ BT];refine C6 ?_;exact Oper.wp_mono (fun a' w' h'=>qI hl rest a' w' zd h') h
   ·exact absurd h.2 hl
  ·rw[if_neg hw] at h⊢;exact⟨fun _ _=>trivial,qI hl rest _ _ zd h⟩
theorem Oz{W:World}{rest:List Oper}(base:Nat)(um:o.guard=none)(s x:Operand)(t ti e:TypeId)(z:Value)(size bytes:Nat)(ho:o.op= .call {callee:= .builtin .append,args:= #[s,x],argTypes:= #[t,ti]})
 (ht:P.underlying t=some (.slice e)) {k:IntKind} (Zp:P.underlying ti=some (.int k)) (kE:(P.info? e).map (fun i=>(i.zero,i.size,i.bytes))=some (some z,size,bytes)) (hz:z.cells.size=size) (qC:0<size) (uh:0<bytes)
 (v:Value) (n:Nat) (xs:List Value) (hs:a.eval s=v) (HO:W.ownsRow base e size v n xs) (kx:IntKind) (m:Nat) (hx:a.eval x= .int kx m) (h1:∀u∈(Builtin.zeroCells z.cells m).toList,u.oneCell'=true) (hl:(n+m)*bytes≤140737488355328) (eQ:base≤W.heap.size)
 (h:∀v1 w1,w1.ownsRow base e size v1 (n+m) (xs++(Builtin.zeroCells z.cells m).toList)→W.grownBy w1 v.ownBlock→wpList P ops Q rest (a.put o.dst v1) w1):wpList P ops Q (o::rest) a W:=by
 obtain⟨i0,hi,zZ⟩:=Option.map_eq_some_iff.1 kE;simp only[Prod.mk.injEq] at zZ;obtain⟨yY,yZ,vn⟩:=zZ;obtain⟨v1,w1,sM,h2,hg,_⟩:=xy (P:=P) W base t ti o.type e i0 z size bytes ht Zp hi yY yZ vn hz qC uh v n xs HO kx m h1 hl eQ;refine wpList_plain um fun K hK=>?_;unfold Oper.wp execOp;simp only[ho,resolve,invoke,builtin,Sem.run_bind,Sem.run_pure,Result.andThen_ok,List.map_toArray,List.map_cons,List.map_nil,hs,hx,sM];exact hK _ _ (h v1 w1 h2 hg)
theorem agT{W:World}{g:Nat}{cur:Array Value}{L:List Int}(h:W.heap[g]? =some (.cells cur 5 (0,0)))(hp:∀(j:Nat)(u:Value),(nums .u8 L)[j]? =some u→cur[j]? =some u)(hl:L.length≤262144):Kd.C (Kd.int .u8) W (some ⟨g,0,none⟩) L.length L:=by
 refine⟨rfl,by omega,fun _=>⟨_,rfl,fun j p hj=>⟨[.int .u8 p],rfl,rfl,fun i u hu=>?_⟩⟩⟩;cases i with
 |zero=>
  simp only[List.getElem?_cons_zero,Option.some.injEq] at hu;subst hu;rw[show(Kd.int .u8).sz=1 from rfl,Nat.mul_one,Nat.add_zero,add_plain,ah h];exact hp _ _ (by simp [nums,hj])
 |succ i=>simp at hu
end
def VO:List Int:=NW1.flatMap w8
theorem VP:VO.length=128:=by decide+kernel
def tk(pre:List Unit):Nat:=if pre=[] then 0 else 128
def tf(pre:List Unit):List Value:=if pre=[] then[] else nums .u8 VO
structure TIn (w:World) (B gp cp:Nat) (uk:Array Value) (v:Value) (pre:List Unit) (W:World):Prop where
 b9:W.heap[B+1]? =some (.cells #[.int .i64 pre.length] 3 (0,0))
 bel:Below w.heap.size w W
 sz:B+2≤W.heap.size
 n1:BI W (.slice (some ⟨gp,0,none⟩) 1 cp) v
 p1:uI W gp uk
def anU(w:World)(B:Nat)(pre:List Unit)(W:World):Prop:=∃vo,Boxed W B 33 vo∧W.ownsRow w.heap.size 5 1 vo (tk pre) (tf pre)∧(pre=[]→vo= .slice none 0 0)
def TIs(w:World)(B gp cp:Nat)(uk:Array Value)(v:Value)(pre:List Unit)(W:World):Prop:=anU w B pre W∧TIn w B gp cp uk v pre W
theorem VQ{w:World}{B gp cp:Nat}{uk:Array Value}{v:Value}{b:Nat}(hB:w.heap.size≤b):OwnFrom b (TIs w B gp cp uk v):=by
 refine OwnFrom.and ((holdsRow_own w.heap.size B 33 5 1 tk tf (fun pre vo=>pre=[]→vo= .slice none 0 0)).from b) ?_;rintro pre X Y row ⟨h1,h2,h3,h4,h5⟩ hg hr;have hk:=fun(k:Nat)(o:Obj)(h:X.heap[k]? =some o)(hc:o.isCells=true)=>grownBy_keeps_cells hg (fun r e=>(hr r e).2) h hc;obtain⟨g,cap,cur,e1,e2,e3,e4,e5⟩:=h4.has;exact⟨(hk _ _ h1 rfl).trans h1,h2.grown hg h2.size (fun k e=>Nat.le_trans hB (hr k e).1),Nat.le_trans h3 hg.size,⟨g,cap,cur,e1,(hk _ _ e2 rfl).trans e2,e3,e4,e5⟩,⟨(hk _ _ h5.hh rfl).trans h5.hh,h5.c0,h5.c1⟩⟩
theorem jn{W:World}{base size n:Nat}{e:TypeId}{v:Value}{xs:List Value}(h:W.ownsRow base e size v n xs)(hn:0<n):∃(g cap:Nat)(cur:Array Value),v= .slice (some ⟨g,0,none⟩) n cap∧base≤g∧W.heap[g]? =some (.cells cur e (0,0))∧n≤cap∧∀(j:Nat)(u:Value),xs[j]? =some u→cur[j]? =some u:=by
 rcases h.2 with⟨_,h0⟩|⟨g,cap,cur,rfl,hb,hh,hc,_,_,ht⟩
 ·exact absurd h0 (by omega)
 ·refine⟨g,cap,cur,rfl,hb,hh,hc,fun j u hj=>?_⟩;rw[←ht,List.getElem?_take] at hj;split at hj
  ·simpa using hj
  ·cases hj
def VR:List Int:=VO++List.replicate 1536 0
theorem uf:VR.length=1664:=by decide+kernel
theorem BK(v:Value)(n:Nat):(Builtin.zeroCells #[v] n).toList=List.replicate n v:=by
 rw[List.eq_replicate_iff];simp [Builtin.zeroCells,Nat.mod_one]
theorem KW(n:Nat):nums .u8 (List.replicate n 0)=List.replicate n (.int .u8 0):=by simp [nums]
theorem OA:nums .u8 VO++(Builtin.zeroCells (Value.int .u8 0).cells 1536).toList=nums .u8 VR:=by
 rw[VR,nC,show(Value.int .u8 0).cells= #[.int .u8 0] from rfl,BK,KW]
theorem abx:dY.f 5 1=some 1:=by decide+kernel
theorem Fw(g c:Nat)(cur:Array Value)(w:World)(h:ID w g cur):
 Calls Tryz.prog 114 #[.int .i64 2,.int .i64 13,.slice (some ⟨g,0,none⟩) 1 c] w fun e w'=>∃(g' c':Nat),e= .returned (.tuple #[.slice (some ⟨g',0,none⟩) 1664 c',.int .i64 0])∧Kd.C (Kd.int .u8) w' (some ⟨g',0,none⟩) 1664 VR∧1664≤c'∧w.heap.size≤g'∧Below w.heap.size w w':=by
 have HE:=ak h;clear h;refine(callsIn_wide (n:=8)).1 ?_;refine callsIn_of_wp_marks Tryz.func114 rfl trivial ?_ rfl;simp only[Tryz.ntmps114,List.size_toArray,List.length_cons,List.length_nil,Nat.reduceAdd,Nat.reduceSub,Array.replicate_succ,Array.replicate_zero,List.push_toArray,List.append_toArray,List.nil_append,List.cons_append]
 gi_wp2_with (refine⟨trivial,?_⟩;gi_at_call 157;refine(callsIn_wide.2 (Ft g c cur _ HE.1)).mono ?_;rintro e w1 ⟨rfl,im⟩;have HE1:=ak (HE.1.below im);have kC:=ak im;clear im)
 gi_wp2_with (refine⟨trivial,?_⟩;gi_at_call 98;with_reducible refine(callsIn_wide.2 (dY.calls 5 1 1 _ abx)).mono ?_;rintro e w2 ⟨rfl,hd⟩;have iq:=hd.below;have TP:=ak (HE1.1.below iq);have nS:=sb kC iq;clear hd iq)
 gi_wp2_with (refine⟨trivial,?_⟩;gi_at_call 98;with_reducible refine(callsIn_wide.2 (dY.calls 5 64 13 _ qo)).mono ?_;rintro e w3 ⟨rfl,hd⟩;have rQ:=hd.below;have HE3:=ak (TP.1.below rQ);have GJ:=sb nS rQ;clear hd rQ HE1 TP kC nS)
 obtain⟨W4,Cu⟩:∃X,X=(w3.alloc (.cells #[.slice none 0 0] 33)).alloc (.cells #[.int .i64 0] 3):=⟨_,rfl⟩;rw[←Cu];have vh:Below w3.heap.size w3 W4:=by rw[Cu];exact ab (ab (Below.refl _ _) _) _
 have D8:=ak (show W4.heap[w3.heap.size]? =some (.cells #[.slice none 0 0] 33 (0,0)) by rw[Cu];exact ar (aI _ _) _);have D9:=ak (show W4.heap[w3.heap.size+1]? =some (.cells #[.int .i64 0] 3 (0,0)) by rw[Cu];exact qd w3 _ _);have HE4:=ak (HE3.1.below vh);have SU:=sb GJ vh;have agU:w3.heap.size+2≤W4.heap.size:=by rw[Cu];simp only[World.size_alloc];omega
 clear Cu vh HE3
 gi_wp2_with (first|(refine⟨trivial,?_⟩;gi_at_call 159;with_reducible refine(callsIn_wide.2 (Fv g c cur _ HE4.1)).mono ?_;rintro e w5 ⟨s,rfl,hl,ud⟩;have HL:=ak hl;have xN:=sb SU ud;replace D8:=kb D8 ud;replace D9:=kb D9 ud;have R7:=Nat.le_trans agU ud.size;clear hl ud;obtain⟨gl,cl,gp,cp,anV,uk,v,rfl,l2,l3,l4,l5⟩:=HL.1.has;have L2:=ak l2;have L3:=ak l3;have L4:=ak l4;have L5:=ak l5;clear l2 l3 l4 l5 HL)|(refine⟨trivial,?_⟩;gi_at_call 158;with_reducible refine(callsIn_wide.2 (BJ _ _ _ _)).mono ?_;rintro e w6 ⟨rfl,rfl⟩))
 obtain⟨W6,tE⟩:∃X,X=w5.alloc (.cells #[.slice (some ⟨gl,0,none⟩) 1 cl] 246):=⟨_,rfl⟩;rw[←tE];have mz:Below w5.heap.size w5 W6:=by rw[tE];exact ab (Below.refl _ _) _
 have hBX:W6.heap[w5.heap.size]? =some (.cells #[.slice (some ⟨gl,0,none⟩) 1 cl] 246 (0,0)):=by rw[tE];exact aI _ _
 replace L2:=kb L2 mz;replace L4:=ak (L4.1.below mz);replace L5:=ak (L5.1.below mz);replace D8:=kb D8 mz;replace D9:=kb D9 mz;replace xN:=sb xN mz;replace R7:=Nat.le_trans R7 mz.size;obtain⟨B,hB⟩:∃B,B=w3.heap.size:=⟨_,rfl⟩;rw[←hB] at R7 D8 D9⊢;have HWB:=ak (show w.heap.size≤B by rw[hB];exact GJ.1.size);obtain⟨bx,hbx⟩:∃B,B=w5.heap.size:=⟨_,rfl⟩;rw[←hbx] at hBX⊢;clear tE mz agU SU HE4 hB GJ hbx;have hvv:∃A n c,v= .slice A n c:=by obtain⟨_,_,_,e,_⟩:=L4.1.has;exact⟨_,_,_,e⟩
 refine wpIn_rangeFunc_ownF (w:=W6) rfl (by omega) (gf:=178) (lb:= #[.pointer (some ⟨bx,0,none⟩)]) rfl trivial (enters_of Tryz.func178 (by kernel_rfl) rfl)
  (zl (8-1) (by omega) _ gl cl anV v W6 hBX L2.1 L3.1 hvv) (Kp:=KpT) (fun _ _=>trivial) (fun _ _ _ _ _ _ _ _=>trivial) (Below.refl _ _) (fun _=>rfl)
  (TIs w B gp cp uk v) (fun _ _ _=>False) (VQ xN.1.size) (fun _ _ _ _ _ h=>h.elim) ⟨⟨_,D8.1,pP _ _ _ _,fun _=>rfl⟩,D9.1,xN.1,R7,L4.1,L5.1⟩
  (fun _=>{tmps:= #[.int .i64 2,.int .i64 13,.slice (some ⟨g,0,none⟩) 1 c,undef,undef,undef,.slice none 0 0,.int .i64 0,.pointer (some ⟨B,0,none⟩),.pointer (some ⟨B+1,0,none⟩),undef,v,undef,undef,.bool false,.int .i64 2,.slice (some ⟨g,0,none⟩) 1 c,.bool true,.bool false,.bool false,.int .i64 13,.slice (some ⟨g,0,none⟩) 1 c,.int .i64 1,.int .i64 1,.bool false,.int .i64 13,.int .i64 13,.bool false,.slice (some ⟨g,0,none⟩) 1 c,.slice (some ⟨gl,0,none⟩) 1 cl,.func (.func 178) #[] #[.pointer (some ⟨bx,0,none⟩)],.int .i64 0,v,undef,undef,undef,undef,undef,undef,undef,undef,undef,undef,undef,undef,undef,undef,undef,undef,undef,undef,undef,undef,undef,undef,undef],defers:=[]}) ?assign ?body ?done ?stop
 case assign=>
  rintro l x W K hK;have HK:=ak hK;clear hK;unfold R6;gi_wp2
  exact HK.1
 case stop=>
  rintro D cx pre W hD J4 h;exact h.elim
 case done=>
  rintro D ys W hD rfl ⟨⟨vo,i1,i2,i3⟩,i4,i5,i6,i7,i8⟩ hK;obtain⟨g3,c3,agV,rfl,BF,Yp,hc3,R8⟩:=jn (show W.ownsRow w.heap.size 5 1 vo 128 (nums .u8 VO) from i2) (by decide);have e8:=(ah i1 0).trans rfl;have HO:=ak (show W.ownsRow w.heap.size 5 1 (.slice (some ⟨g3,0,none⟩) 128 c3) 128 (nums .u8 VO) from i2);have I5:=ak i5;have HK:=ak hK;have H3:=ak Yp;have H3g:=BF;clear i1 i2 i3 i4 i5 i7 i8 hK hBX BF Yp hc3 R8 hvv
  gi_wp2_with ((with_reducible refine pd (N:=55) rfl ?_);refine qI (by rintro⟨a,w,g,c,h,_⟩;cases h) _ _ _ (by rfl) ?_;refine Oz w.heap.size rfl (.tmp 49) (.tmp 54) 33 3 5 (.int .u8 0) 1 1 rfl Tryz.underlying33 Tryz.underlying3 kG rfl (by decide) (by decide) (.slice (some ⟨g3,0,none⟩) 128 c3) 128 (nums .u8 VO) rfl HO.1 .i64 1536 rfl (by intro u hu;rw[show(Value.int .u8 0).cells= #[.int .u8 0] from rfl,BK] at hu;obtain rfl:=List.eq_of_mem_replicate hu;rfl) (by decide) I5.1.size ?_;intro v1 w1' ho hg;have CI:=ak ho;have HG:=ak hg;clear ho hg)
  obtain⟨g4,c4,agX,rfl,rP,hh4,hc4,IF⟩:=jn CI.1 (by decide);rw[OA] at IF
  have hDD:w1'.heap[D]? =some (.deferred (some [])):=(HG.1.block D (aN HK.1) (by
   simp only[Value.ownBlock,ne_eq,Option.some.injEq];rintro rfl;rw[H3.1] at HK;cases HK.1)).trans HK.1
  have R4:=ak (And.intro rP (And.intro hh4 (And.intro hc4 IF)));have HDD:=ak hDD
  have HB7:=ak (I5.1.grown HG.1 I5.1.size (fun k e=>by
   simp only[Value.ownBlock,Option.some.injEq] at e;subst e;exact H3g))
  clear rP hh4 hc4 IF hDD;go_wp2;gi_wp2
  refine⟨by simp,.inl ⟨_,_,rfl,run_takeDeferred HDD.1,?_⟩⟩;obtain⟨rP,hh4,hc4,IF⟩:=R4.1;have hb:=belowK_b (w:=w) (Nat.le_refl _) w1' D (.deferred (some [])) (.deferred none) (Nat.le_trans xN.1.size hD) HDD.1 rfl rfl;refine⟨.tuple #[.slice (some ⟨g4,0,none⟩) 1664 c4,.int .i64 0],?_,g4,c4,rfl,?_,hc4,rP,HB7.1.trans hb⟩
  ·simp [results,Tryz.f114,go_sem]
  ·have h4:(w1'.putObj D (.deferred none)).heap[g4]? =some (.cells agX 5 (0,0)):=(World.putObj_heap_other (by rintro rfl;rw[HDD.1] at hh4;cases hh4)).trans hh4;have h5:=agT h4 IF (by rw[uf];decide);rw[uf] at h5;exact h5
 case body=>
  rintro l pre x W ⟨⟨vo,i1,i2,i3⟩,i4,i5,i6,i7,i8⟩ cX;have hp:pre=[]:=List.length_eq_zero_iff.1 (by omega);subst hp;obtain rfl:=i3 rfl;obtain⟨gn,cn,agR,rfl,n2,n3,n4,n5⟩:=i7.has;have d9:=(ah i4 0).trans rfl;have f9:=bn i4 0;have m0:=(ah n2 0).trans n3;have m1:=(ah n2 1).trans n4;have anY:gn≠B+1:=dQ n2 i4 (by decide);have D8:=ak i1;have D9:=ak i4;have Va:=ak i1;have HI4:=ak i4;have N3:=ak n3;have N4:=ak n4;have N5:=ak n5;have HB:=ak i5;have HN:=ak n2;have HP:=ak i8;have av4:=ak (dQ i1 i4 (by decide));have anZ:=ak (dQ i8.hh i4 (by decide));clear i1 i2 i3 i4 i5 i7 i8 n2 n3 n4 n5 hBX L2 L4 L5 hvv R7;gi_wp2
  refine wpIn_loop_rounds 2 ?_;rw[roundsIn_succ]
  gi_wp2_with fail
  obtain⟨gb,pL⟩:∃gb,gb=W.heap.size:=⟨_,rfl⟩;obtain⟨W1,fI⟩:∃X,X=((W.setCell ⟨B+1,0,none⟩ (.int .i64 1)).alloc (.cells #[.bool true,.slice (some ⟨gp,0,none⟩) 1 cp] 251)):=⟨_,rfl⟩;rw[←fI,←pL];have hsw:(W.setCell ⟨B+1,0,none⟩ (.int .i64 1)).heap.size=W.heap.size:=by simp only[World.setCell,Array.size_modify]
  have hKW:∀k,k<W.heap.size→k≠B+1→W1.heap[k]? =W.heap[k]? :=fun k h1 h2=>by rw[fI];exact(Below.heap_alloc _ _ k (by omega)).trans (Below.heap_setCell _ _ _ _ (by simpa using h2))
  replace D8:=ak ((hKW B (aN D8.1) (by omega)).trans D8.1);replace D9:=ak (show W1.heap[B+1]? =some (.cells #[.int .i64 1] 3 (0,0)) by rw[fI];exact ar (aQ D9.1 0 _ rfl) _);have od:=ak (show W1.heap[gb]? =some (.cells #[.bool true,.slice (some ⟨gp,0,none⟩) 1 cp] 251 (0,0)) by rw[fI,pL,←hsw];exact aI _ _);replace HB:=ak (show Below w.heap.size w W1 by rw[fI];exact ab (HB.1.setCell (by have:=HWB.1;simp only;omega) _) _);replace HN:=ak ((hKW gn (aN HN.1) anY).trans HN.1);replace HP:=ak (show uI W1 gp uk from⟨(hKW gp (aN HP.1.hh) anZ.1).trans HP.1.hh,HP.1.c0,HP.1.c1⟩);have oL:B+2≤W1.heap.size:=by rw[fI];simp only[World.size_alloc];omega
  have Yr:=ak hKW;have Tj:=ak (show W.heap.size≤W1.heap.size by rw[fI];simp only[World.size_alloc];omega);clear fI hsw hKW d9 f9 m0 m1 pL;refine RZ (m:=6) (S:=fun w'=>w'.cell? ⟨B,0,none⟩=some (.slice none 0 0)∧w'.cell? ⟨gb,0,none⟩=some (.bool true)∧w'.cell? ⟨gb,1,none⟩=some (.slice (some ⟨gp,0,none⟩) 1 cp)∧w'.cell? ⟨B+1,0,none⟩=some (.int .i64 1)) (ds:=[5]) #[false,false,false,false,false,false] (by kernel_rfl) rfl rfl (by kernel_rfl) (by rintro⟨a,w,h⟩;exact h) ⟨cL D8 0,cL od 0,cL od 1,cL D9 0⟩ (fun hHeld=>?_);replace D8:=kd D8;replace D9:=kd D9;replace od:=kd od;replace HB:=sd HB;replace HP:=ak (show uI W1.drew gp uk from⟨HP.1.hh,HP.1.c0,HP.1.c1⟩);replace HN:=kd HN;have S7:=ak (show B+2≤W1.drew.heap.size from oL);replace Yr:=ak (show∀k,k<W.heap.size→k≠B+1→W1.drew.heap[k]? =W.heap[k]? from Yr.1);replace Tj:=ak (show W.heap.size≤W1.drew.heap.size from Tj.1);clear oL;generalize W1.drew=wx at D8 D9 od HB HP HN S7 Yr Tj hHeld⊢;refine lq 0 43 hHeld ?_;refine lq 1 44 hHeld ?_;refine lq 2 45 hHeld ?_;refine kD 3 46 fun K hK=>?_;refine pN Tryz.func160 #[.agg #[.bool true,.slice (some ⟨gp,0,none⟩) 1 cp],.int .i64 1] ?_;refine(KT gp cp uk 1 _ HP.1).mono ?_;rintro e w1 ⟨g2,rfl,uN,Yq,hb⟩;refine⟨_,rfl,?_⟩;replace D8:=kb D8 hb;replace D9:=kb D9 hb;replace od:=kb od hb;replace HN:=kb HN hb;replace HP:=ak (HP.1.below hb);replace HB:=sb HB hb;replace S7:=ak (Nat.le_trans S7.1 hb.size);replace Yr:=ak (fun k(h1:k<W.heap.size)(h2:k≠B+1)=>(hb.block k (Nat.lt_of_lt_of_le h1 Tj.1)).trans (Yr.1 k h1 h2));replace Tj:=ak (Nat.le_trans Tj.1 hb.size);have HH:=ak Yq;clear hb uN Yq hHeld;refine ft hK (fun hHeld=>?_);clear hK K;refine kD 4 47 fun K hK=>?_
  refine jV w.heap.size (by rfl) (.tmp 43) (.tmp 46) 33 5 (.int .u8 0) 1 1 rfl Tryz.underlying33 kG rfl (by decide) (.slice none 0 0) 0 [] rfl (pP _ _ _ _) ⟨g2,0,none⟩ 128 128 (nums .u8 VO) rfl (by rw[nums_length,VP]) (fun j u hj=>by
   rw[add_plain,ah HH.1];simpa [cS,VO] using hj) (by simp [nums,Value.oneCell']) (by simp [maxLen]) (by decide) (Nat.le_trans HB.1.size (Nat.le_refl _)) ?_
  intro v1 w2 ho hg;have my:=fun k(h:k<w1.heap.size)=>hg.block k h (by simp [Value.ownBlock]);replace D8:=ak ((my _ (aN D8.1)).trans D8.1);replace D9:=ak ((my _ (aN D9.1)).trans D9.1);replace od:=ak ((my _ (aN od.1)).trans od.1);replace HN:=ak ((my _ (aN HN.1)).trans HN.1);replace HP:=ak (show uI w2 gp uk from⟨(my _ (aN HP.1.hh)).trans HP.1.hh,HP.1.c0,HP.1.c1⟩);replace HB:=ak (HB.1.grown hg HB.1.size (by simp [Value.ownBlock]));replace S7:=ak (Nat.le_trans S7.1 hg.size);replace Yr:=ak (fun k(h1:k<W.heap.size)(h2:k≠B+1)=>(my k (Nat.lt_of_lt_of_le h1 Tj.1)).trans (Yr.1 k h1 h2));replace Tj:=ak (Nat.le_trans Tj.1 hg.size);have HO:=ak ho;clear ho hg my hHeld HH;refine ft hK (fun hHeld=>?_);clear hK K;obtain⟨g3,c3,agV,rfl,BF,Yp,hc3,R8⟩:=jn HO.1 (by decide);have c8:=cL D8;have f8:=fZ D8;refine Ls 5 fun K hK=>?_;refine xC ?_;refine hK.out _ _ ?_;clear hK K;refine gF (by kernel_rfl) ?_;clear hHeld c8 f8;have R3:=ak (And.intro BF Yp);clear BF Yp hc3 R8;gi_wp2
  rw[roundsIn_succ];gi_wp2
  have hB8:B≠g3:=dQ D8.1 R3.1.2 (by decide);refine⟨⟨by simpa [World.setCell] using Tj.1,fun k o hk hc=>?_⟩,trivial,⟨_,aQ D8.1 0 _ rfl,HO.1.kept (grownBy_setCell' _ _ _) (.inr (by simp only[Value.ownBlock,ne_eq,Option.some.injEq];exact fun e=>hB8 e.symm)),fun e=>by cases e⟩,?_⟩
  ·have mA:k≠B+1:=by
    rintro rfl;rw[HI4.1] at hk;cases hk;cases hc
   have Ul:k≠B:=by
    rintro rfl;rw[Va.1] at hk;cases hk;cases hc
   exact(Below.heap_setCell _ _ _ _ (by simpa using Ul)).trans ((Yr.1 k (aN hk) mA).trans hk)
  ·refine⟨aJ D9.1 (by simp) _,HB.1.setCell (by have:=HWB.1;simp only;omega) _,by simpa [World.setCell] using S7.1,⟨gn,cn,agR,rfl,aJ HN.1 ?_ _,N3.1,N4.1,N5.1⟩,⟨aJ HP.1.hh ?_ _,HP.1.c0,HP.1.c1⟩⟩
   ·exact fun e=>dQ D8.1 HN.1 (by decide) e.symm
   ·exact fun e=>dQ D8.1 HP.1.hh (by decide) e.symm
end Go.Proofs.YtmhdcgmfbjcndaaGreatDoor.P
namespace Go.Proofs.YtmhdcgmfbjcndaaGreatDoor.P
open Go.RowKit Go.Proofs.aa.ag Go.Proofs.aa.ao Go.Proofs.aa.ay
attribute [local go_sem↓] Go.wp_at_zero Go.wp_at_succ
theorem OB(A6:Option Addr)(c6:Nat)(A7:Option Addr)(c7:Nat)(A8:Option Addr)(c8 gy go:Nat)(L:List Int)(hL:L.length=10240)(A:Option Addr)(c:Nat)(w:World)(hy:w.heap[gy]? =some (.cells (Ym A6 c6 A7 c7 A8 c8 go) 87 (0,0)))(hg:w.heap[go]? =some (cS L))(hk:Kd.C (Kd.int .i64) w A KD1.length KD1):
 Calls Tryz.prog 68 #[.pointer (some ⟨gy,0,none⟩),.slice A 2 c] w fun e w'=>e= .returned (.tuple #[])∧w'.heap[go]? =some (cS (fc L 8064 VR))∧j' go w w':=by
 have DY:=ak hy;have DG:=ak hg;have HK:=ak hk;clear hy hg hk;go_enter Tryz.func68,Tryz.ntmps68
 go_wp2_with fail
 refine(KS A c _ HK.1).mono ?_;rintro e w1 ⟨g1,c1,cur,rfl,zp,hh1,tT,x0,x1,x2,hb⟩;have HE:=ak (show ID w1 g1 cur from⟨hh1,x0,x1,x2⟩);have HB:=ak hb;replace DY:=kb DY hb;replace DG:=kb DG hb;clear zp hh1 tT x0 x1 x2 hb HK
 go_wp2_with fail
 refine eW (n:=13) (S:=fun w'=>w'.cell? ⟨gy,5,none⟩=some (.int .i64 2)) (ds:=[]) #[false,false,false,false,false,false,false,false,false,false,false,false,false] (by kernel_rfl) rfl rfl (cL DY 5) (fun hHeld=>?_);replace DY:=kd DY;replace DG:=kd DG;replace HE:=ak (show ID w1.drew g1 cur from⟨HE.1.hh,HE.1.c0,HE.1.c1,HE.1.c2⟩);replace HB:=sd HB;generalize w1.drew=wx at DY DG HE HB hHeld⊢;refine cP 0 14 ?_;refine cP 1 15 ?_;refine cP 2 16 ?_;refine cP 3 17 ?_;refine lq 4 18 hHeld ?_;refine cP 6 20 ?_;refine kD 5 19 fun K hK=>?_;refine pN Tryz.func98 #[.int .i64 64] ?_
 with_reducible refine(dY.calls 5 64 13 _ qo).mono ?_
 rintro e w2 ⟨rfl,hd⟩;have hb:=hd.below;refine⟨_,rfl,?_⟩;replace DY:=kb DY hb;replace DG:=kb DG hb;replace HE:=ak (HE.1.below hb);replace HB:=sb HB hb;clear hd hb hHeld;refine ft hK (fun hHeld=>?_) (cL DY 5);clear hK K;refine kD 7 21 fun K hK=>?_;refine pN Tryz.func114 #[.int .i64 2,.int .i64 13,.slice (some ⟨g1,0,none⟩) 1 c1] ?_
 with_reducible refine(Fw g1 c1 cur _ HE.1).mono ?_
 rintro e w3 ⟨g3,c3,rfl,h3,hc3,BF,hb⟩;refine⟨_,rfl,?_⟩;replace DY:=kb DY hb;replace DG:=kb DG hb;replace HE:=ak (HE.1.below hb);replace HB:=sb HB hb;have H3:=ak h3;clear h3 hc3 BF hb hHeld;refine ft hK (fun hHeld=>?_) (cL DY 5);clear hK K;refine cP 8 13 ?_;refine cP 9 22 ?_;refine cP 10 23 ?_;refine cP 11 6 ?_;refine cP 12 7 ?_;refine gF (by kernel_rfl) ?_;have y15:=cL DY
 go_wp2_with fail
 have hp:=pD gy go _ 126 10240 10240 c3 L VR (some ⟨g3,0,none⟩) _ DY.1 rfl DG.1 (by rw[uf];exact H3.1) hL (by decide) (by rw[uf];decide) (by decide) (by decide);rw[uf] at hp;refine hp.mono ?_;rintro e w4 ⟨rfl,rP,vh⟩;go_wp2
 go_end0
 exact⟨rfl,rP,(j'.fV HB.1).trans vh⟩
theorem zm{P:Program}{w:World}(mty kt et:TypeId)(r clock:Nat)(x:Int)(val:Value)(hm:P.underlying mty=some (.map kt et))(hk:P.underlying kt=some (.int .i64))(hb:w.heap[r]? =some (.map #[] clock)):
 (Instr.mapUpdate mty (.map (some r)) (.int .i64 x) val).run P w= .ok () {w with heap:=w.heap.setIfInBounds r (.map #[{key:= .int .i64 x,val:=val,born:=clock}] (clock+1))}:=by
 have hf:Instr.findNow (.int .i64) (.int .i64 x) ([]:List MapEntry) 0=some none:=rfl;have hc:(Instr.checkKey false 10000 kt (.int .i64 x)).run P w= .ok () w:=MapKept.run_checkKey (k:= .int .i64 x) hk (by simp [MapKept.IsKey]) false 9999;simp [Instr.mapUpdate,run_underlying hm,MapKept.run_getObj_map hb,hc,MapKept.run_findKey hk hf,MapKept.run_setObj_map _ hb,Result.andThen]
def OB1:List fl:=[⟨0,300⟩]
def AT1:List Int:=[0]
theorem Ys:dG.f 10 2 4 2 60 2 2 mG pO rK=some (OB1,AT1):=by kernel_rfl
theorem R9{W:World}{base:Nat}{ok:Nat→Prop}{v:Value}(h:Kd.R uM 107 W base ok v OB1):∃(g cap:Nat)(cur:Array Value),v= .slice (some ⟨g,0,none⟩) 1 cap∧base≤g∧W.heap[g]? =some (.cells cur 107 (0,0))∧cur[0]? =some (.int .i64 0)∧cur[1]? =some (.int .i64 300):=by
 obtain⟨_,inner,ho,hr⟩:=h;obtain⟨g,cap,cur,rfl,hb,hh,hc,yR⟩:=jn ho (by decide);have hm:=Jv (hr.2 0 ⟨0,300⟩ rfl)
 have e0:inner[0]? =some (.int .i64 0):=by
  have:=congrArg (fun l=>l[0]?) hm;simp [List.getElem?_take] at this;exact this.2
 have e1:inner[1]? =some (.int .i64 300):=by
  have:=congrArg (fun l=>l[1]?) hm;simp [List.getElem?_take] at this;exact this.2
 exact⟨g,cap,cur,rfl,hb,hh,yR _ _ e0,yR _ _ e1⟩
theorem Sa{W:World}{base:Nat}{ok:Nat→Prop}{v:Value}(h:Kd.R (Kd.int .i64) 3 W base ok v AT1):∃(g cap:Nat)(cur:Array Value),v= .slice (some ⟨g,0,none⟩) 1 cap∧base≤g∧W.heap[g]? =some (.cells cur 3 (0,0))∧cur[0]? =some (.int .i64 0):=by
 obtain⟨_,inner,ho,hr⟩:=h;obtain⟨g,cap,cur,rfl,hb,hh,hc,yR⟩:=jn ho (by decide);have hm:=(Kd.int .i64).gh (hr.2 0 0 rfl)
 have e0:inner[0]? =some (.int .i64 0):=by
  have hm:(inner.drop (0*1)).take 1=[.int .i64 0]:=hm;have:=congrArg (fun l=>l[0]?) hm;simpa [List.getElem?_take] using this
 exact⟨g,cap,cur,rfl,hb,hh,yR _ _ e0⟩
theorem IG(A6:Option Addr)(c6:Nat)(A7:Option Addr)(c7:Nat)(A8:Option Addr)(c8 gy go:Nat)(A:Option Addr)(c:Nat)(w:World)(hy:w.heap[gy]? =some (.cells (Ym A6 c6 A7 c7 A8 c8 go) 87 (0,0)))
 (h6:Kd.C gW w A6 mG.length mG) (om:mG.length≤c6) (h7:Kd.C gQ w A7 pO.length pO) (lY:pO.length≤c7) (h8:Kd.C (Kd.slice 5 (Kd.int .u8)) w A8 rK.length rK) (nT:rK.length≤c8):
 Calls Tryz.prog 69 #[.pointer (some ⟨gy,0,none⟩),.slice A 2 c] w fun e w'=>∃b0 b1 b2,e= .returned (.func (.func 115) #[] #[.pointer (some ⟨b1,0,none⟩),b2,b0])∧w'.heap[b1]? =some (.cells #[.slice A 2 c] 68 (0,0))∧Below w.heap.size w w':=by
 have ON:∀(fn:Fn)(first cap:Array Value)(w:World),(Instr.makeFunc fn first cap).run Tryz.prog w= .ok (.func fn first cap) w:=fun _ _ _ _=>rfl;have hmm:∀w,(Instr.makeMap 204 none).run Tryz.prog w= .ok (.map (some w.heap.size)) (w.alloc (.map #[] 0)):=fun _=>rfl;have DY:=ak hy;have H6:=ak h6;have H7:=ak h7;have H8:=ak h8;clear hy h6 h7 h8;go_enter Tryz.func69,Tryz.ntmps69;obtain⟨W1,fI⟩:∃X,X=(((w.alloc (.cells #[.pointer (some ⟨gy,0,none⟩)] 85)).alloc (.cells #[.slice A 2 c] 68)).alloc (.map #[] 0)).alloc (.cells #[.map (some (w.heap.size+1+1))] 204):=⟨_,rfl⟩;obtain⟨q0,q1,q2,q3,q4,q5⟩:=lW w _ _ _ _ W1 fI;have xo:=ak fI;have y0:=(ah (cK DY.1 q5) 0).trans rfl;have y1:=(ah (cK DY.1 q5) 1).trans rfl;have y2:=(ah (cK DY.1 q5) 2).trans rfl;have y3:=(ah (cK DY.1 q5) 3).trans rfl;have y4:=(ah (cK DY.1 q5) 4).trans rfl;have y5:=(ah (cK DY.1 q5) 5).trans rfl;have y6:=(ah (cK DY.1 q5) 6).trans rfl;have y7:=(ah (cK DY.1 q5) 7).trans rfl;have y8:=(ah (cK DY.1 q5) 8).trans rfl;have p0:=(ah q0 0).trans rfl;have D0:=ak q0;have D1:=ak q1;have MP:=ak q2;have DM:=ak q3;have HB:=ak q5;clear q0 q1 q2 q3 q4 q5 fI
 go_wp2_with((with_reducible refine ma (N:=12) rfl ?_);rw[←xo.1])
 refine(dG.calls 10 2 4 2 60 2 2 A6 c6 mG A7 c7 pO A8 c8 rK OB1 AT1 _ (Kd.aj H6.1 HB.1) om (Kd.aj H7.1 HB.1) lY (Kd.aj H8.1 HB.1) nT Ys).mono ?_;rintro e w2 ⟨v0,v1,rfl,fS,sM,hb⟩;obtain⟨gr,cr,cur,rfl,my,hhr,r0,r1⟩:=R9 fS;obtain⟨ga,ca,an0,rfl,hga,hha,ra⟩:=Sa sM;have o0:=(ah hhr 0).trans r0;have o1:=(ah hhr 1).trans r1;have lo:=aN hhr;replace D0:=kb D0 hb;replace D1:=kb D1 hb;replace DM:=kb DM hb;replace MP:=kb MP hb;have DA:=ak hha;have A0:=ak ra;replace HB:=sb HB hb;clear fS sM hb hha ra hhr r0 r1 y0 y1 y2 y3 y4 y5 y6 y7 y8 p0;go_wp2;refine wp_loop_rounds 2 ?_;rw[rounds_succ]
 go_wp2_with fail
 obtain⟨gb,pL⟩:∃gb,gb=w2.heap.size:=⟨_,rfl⟩;obtain⟨W3,FT⟩:∃X,X=w2.alloc (.cells #[.int .i64 0,.int .i64 300] 107):=⟨_,rfl⟩;rw[←FT,←pL];have rQ:Below w2.heap.size w2 W3:=by rw[FT];exact ab (Below.refl _ _) _
 have DB:=ak (show W3.heap[gb]? =some (.cells #[.int .i64 0,.int .i64 300] 107 (0,0)) by rw[FT,pL];exact aI _ _);replace D0:=kb D0 rQ;replace D1:=kb D1 rQ;replace DM:=kb DM rQ;replace MP:=kb MP rQ;replace DA:=kb DA rQ;replace HB:=sb HB rQ;obtain⟨gm,SZ⟩:∃g,g=w.heap.size+1+1+1:=⟨_,rfl⟩;obtain⟨mp,hmp⟩:∃g,g=w.heap.size+1+1:=⟨_,rfl⟩;have HMP:=ak hmp;rw[←SZ] at DM⊢;rw[←hmp] at DM MP⊢;clear pL FT rQ SZ hmp o0 o1 lo;refine eW (n:=8) (S:=fun w'=>w'.cell? ⟨gm,0,none⟩=some (.map (some mp))∧w'.cell? ⟨gb,0,none⟩=some (.int .i64 0)∧w'.cell? ⟨ga,0,none⟩=some (.int .i64 0)) (ds:=[7]) #[false,false,false,false,false,false,false,false] (by kernel_rfl) rfl rfl ⟨cL DM 0,cL DB 0,(ah DA.1 0).trans A0.1⟩ (fun hHeld=>?_);replace D0:=kd D0;replace D1:=kd D1;replace DM:=kd DM;replace DB:=kd DB;replace DA:=kd DA;replace MP:=kd MP;replace HB:=sd HB;generalize W3.drew=wx at D0 D1 DM DB DA MP HB hHeld⊢;refine lq 0 26 hHeld ?_;refine cP 1 27 ?_;refine lq 2 28 hHeld ?_;refine cP 3 29 ?_;refine cP 4 30 ?_;refine cP 5 31 ?_;refine lq 6 32 hHeld ?_;refine Ls 7 fun K hK=>?_;refine Wv (w1:={wx with heap:=wx.heap.setIfInBounds mp (.map #[{key:= .int .i64 0,val:= .int .i64 0,born:=0}] 1)}) (by rfl) rfl ?_ ?_
 ·have hr:=zm (P:=Tryz.prog) (w:=wx) 204 3 3 mp 0 0 (.int .i64 0) Tryz.underlying204 Tryz.underlying3 MP.1;simp [execOp,Act.eval,hr,Result.andThen]
 refine hK.out _ _ ?_;clear hK K;refine gF (by kernel_rfl) ?_;obtain⟨V,hV⟩:∃X:World,X={wx with heap:=wx.heap.setIfInBounds mp (.map #[{key:= .int .i64 0,val:= .int .i64 0,born:=0}] 1)}:=⟨_,rfl⟩;rw[←hV];have mA:w.heap.size+1≠mp:=by have:=HMP.1;omega
 have hk:∀k,k≠mp→V.heap[k]? =wx.heap[k]? :=fun k h=>by rw[hV];exact Array.getElem?_setIfInBounds_ne (fun e=>h e.symm)
 have D1':=ak ((hk _ mA).trans D1.1);have HB':=ak (show Below w.heap.size w V from⟨by rw[hV];exact HB.1.os,by rw[hV];exact HB.1.tape,by rw[hV];exact HB.1.output,by rw[hV];simpa using HB.1.size,fun k OK=>(hk k (ow HMP)).trans (HB.1.block k OK)⟩);clear hV hk;go_wp2;rw[rounds_succ];go_wp2;go_ret;exact⟨_,_,_,rfl,D1'.1,HB'.1⟩
end Go.Proofs.YtmhdcgmfbjcndaaGreatDoor.P
