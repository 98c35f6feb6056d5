/- The Go function joisttop.TopUndone returns true for every input, and its arguments read behind the call as they read before; what the listed variables read as is tied to the program's text. -/
import Derived.Test.YtmhdcgmfbjcndaaGreatDoorB44
import Derived.ChangeOld
import Derived.LaidMore
import Derived.Lay
import Derived.ProofKit
import Derived.SevenTiedAt
import Derived.ShutString
import Derived.Stop.Joined
import Derived.Test.YtmhdcgmfbjcndaaGreatDoorCards
import Derived.Test.YtmhdcgmfbjcndaaGreatDoorRows
import Derived.Test.YtmhdcgmfbjcndaaGreatDoorTie
set_option linter.unusedVariables false
set_option linter.unusedSimpArgs false
set_option maxRecDepth 100000
set_option maxHeartbeats 8000000
namespace Go.Proofs.YtmhdcgmfbjcndaaGreatDoor.Di
open Go.ChangeShapes Go.WideShapes Go.ChangeAt Go.RowKit Go.Proofs.YtmhdcgmfbjcndaaGreatDoor.Open
open Go.ChangeMaps (open_string shut_string)
theorem own:ownKnob Tryz.prog.godebug=none:=by kernel_rfl
theorem laidOut:laidOutB Tryz.prog=true:=by kernel_rfl
theorem lifted(os:Os)(started:os.Started)(H:Type)(enc:TypeId×Value→H):
 ReturnsInHanded {} Tryz.checked os 3 .any (fun w args=>(Rows.topUndoneSpec.pre enc Tryz.prog Tryz.f3 Rows.topUndoneRow.domain false w args∧laidMetH Tryz.prog Rows.topUndoneRow.laid w)∧sizedMet enc Tryz.prog Tryz.f3 (OpenSpec.ofChange Rows.topUndoneSpec) false w args) (Rows.topUndoneSpec.post enc Tryz.prog Tryz.f3 false true false false):=by
 refine returnsInHanded_of_change_and (C:=Tryz.checked) (X:=fun w _=>laidMetH Tryz.prog Rows.topUndoneRow.laid w) (fun _ _ _ hh h=>h.of_heap hh) own started (by kernel_rfl) Tryz.func3
  (ChangeSpec.witness_shaped (enc:=enc) (C:=Tryz.checked) (os:=os) (X:=fun w _=>laidMetH Tryz.prog Rows.topUndoneRow.laid w) false (World.laidAll Tryz.prog os Rows.topUndoneRow.laid) #[.agg #[.int .i64 0,.int .i64 0,.int .i64 0,.int .i64 0,.int .i64 0,.int .i64 0,.slice none 0 0,.slice none 0 0,.slice none 0 0],.int .i64 0] 8 (World.laidAll_os _ _ _)
   (World.shaped_of_ZipB (by kernel_rfl) (by kernel_rfl)) (by kernel_rfl) (by kernel_rfl) (by kernel_rfl)
   (by rw[MakeChecks.laidMetH_plain _ _ _ (by kernel_rfl)];exact laidMet_laidAll _ (by kernel_rfl) (by kernel_rfl))) ?_
 intro W base args ds gs before ah5 hW hcnd ao4 hL _;have oL:(DataW.weightsEach Tryz.prog (Tryz.f3.params.toList++Rows.topUndoneSpec.plain.varTypes Tryz.prog) (ds++gs)).all (·≤reachBytes)=true:=ao4;have hval:∀(j:Nat) t v,Tryz.f3.params[j]? =some t→args[j]? =some v→Value.okWide Tryz.prog W .any base t v:=ah5;have hW':=hW;obtain⟨p,q,hA0,hV,rfl,hfz,S8⟩:=hW;have hA:DataW.TrodAll enc Tryz.prog W 0 (fun _=>true) true Tryz.f3.params.toList args.toList ds p:=hA0;rw[Tryz.params3] at hA hval oL;obtain⟨v0,vs0,d0,ds0,p0,q0,ym,rfl,rfl,h0,r0⟩:=trodAll_cons hA;obtain⟨v1,vs1,d1,ds1,p1,q1,rfl,rfl,rfl,h1,r1⟩:=trodAll_cons r0;obtain⟨rfl,rfl,rfl⟩:=trodAll_nil r1;obtain rfl:args= #[v0,v1]:=by cases args;simp_all
 obtain⟨rfl,rfl⟩:=trodVars_none hV;obtain⟨cs0,rfl,axk⟩:=okWide_struct Tryz.underlying28 (hval 0 28 v0 rfl rfl);have k0:=h0;have lt0:∀x∈p0,x.block<W.heap.size:=by obtain⟨m,hm⟩:=k0;exact DataW.trod_lt m _ _ _ hm
 obtain⟨a0,hK0,w0⟩:=eV.arg (j:=0) Ws oL rfl rfl h0;obtain⟨A6,c6,A7,c7,A8,c8,e_,l6,g6,l7,g7,l8,g8⟩:=P.Ps hK0;obtain rfl:cs0= #[.int .i64 a0.f0.f0,.int .i64 a0.f0.f1,.int .i64 a0.f0.f2,.int .i64 a0.f0.f3,.int .i64 a0.f1,.int .i64 a0.f2,.slice A6 a0.f3.length c6,.slice A7 a0.f4.length c7,.slice A8 a0.f5.length c8]:=by apply Array.ext';simpa [Value.cells] using e_
 obtain⟨a1,rfl,rfl,rfl,w1⟩:=open_int Tryz.underlying3 (hval 1 3 v1 rfl rfl) h1;refine(P.lL.calls a0.f0.f0 a0.f0.f1 a0.f0.f2 a0.f0.f3 a0.f1 a0.f2 A6 c6 a0.f3 A7 c7 a0.f4 A8 c8 a0.f5 a1 true W g6 l6 g7 l7 g8 l8 rfl).mono fun e W' ⟨he,ao5⟩=>?_;have bel:=ao5;subst he;exact⟨_,rfl,_,_,_,[],_,[],hW',trodAll_mk1 (shut_bool Tryz.underlying4 _),(trodAll_cons_mk (Below.trod laidOut (by kernel_rfl) (of_decide_eq_true (by kernel_rfl)) k0 bel lt0) (trodAll_cons_mk (shut_int Tryz.underlying3 w1) trodAll_mk0)),rfl,bel.frame _,fun h=>by cases h⟩
theorem over:Rows.topUndoneRow.holds Tryz.pinned (OpenSpec.ofChange Rows.topUndoneSpec):=
 OpenClaim.holds_of_wide 3 Tryz.f3 rfl rfl rfl rfl rfl rfl rfl ⟨rfl,rfl,rfl,rfl,rfl⟩ rfl rfl rfl rfl rfl (by kernel_rfl) Tryz.func3 (by kernel_rfl)
  (of_decide_eq_true (by kernel_rfl)) (by unfold Func.isWrapper;first|(rw[if_pos (by decide+kernel)];kernel_rfl)|(rw[if_neg (by decide+kernel)];exact⟨rfl,rfl⟩))
  (fun os started H enc _=>lifted os started H enc)
theorem proved:Rows.TopUndoneSaid:=over
theorem card:Rows.TopUndoneCardSaid:=
 Claim7.holds_tied_plain_at .later [] [.data,.pinned] true (true,"667338ca3d95f80cb10eee98e02d222e0818290f34a67ecfce58fc9101eb9652") false proved (fun _ h=>by cases h) (by kernel_rfl) (fun _ h=>by cases h) topUndone_row_tie rfl ⟨rfl,rfl⟩ (by kernel_rfl) rfl
  (fun f fn hf hfn=>by
   obtain rfl:f=3:=Option.some.inj ((show Tryz.prog.funcNamed "joist/joisttop.TopUndone"=some 3 by kernel_rfl).symm.trans hf)|>.symm;obtain rfl:fn=Tryz.f3:=(Option.some.inj (Tryz.func3.symm.trans hfn)).symm
   exact⟨by kernel_rfl,fun j t ht=>by
    have hm:t∈Tryz.f3.params.toList:=by
     have:=Array.mem_of_getElem? ht;simpa using this
    have rR:(Tryz.f3.params.toList.all fun u=> !Tryz.prog.wantsStandIn u)=true:=by kernel_rfl
    exact(show Tryz.prog.wantsStandIn t=false by simpa using List.all_eq_true.1 rR t hm)⟩)
  (by kernel_rfl)
#print axioms card
end Go.Proofs.YtmhdcgmfbjcndaaGreatDoor.Di
namespace Go.Proofs.YtmhdcgmfbjcndaaGreatDoor
theorem topUndone_holds:Rows.TopUndoneCardSaid:=Di.card
end Go.Proofs.YtmhdcgmfbjcndaaGreatDoor
