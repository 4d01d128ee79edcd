/- DeriveOr: a disjunction follows from each part, and what follows from both parts follows from it, by proofs that the kernel accepts (or refuses by a limit) and that use nothing; no conditions. -/
import Derived.Test.YthlkampfjlkniaaGreatDoorXA1
import Derived.Test.YthlkampfjlkniaaGreatDoorXD1
import Derived.Test.YthlkampfjlkniaaGreatDoorXDT1
import Derived.Test.YthlkampfjlkniaaGreatDoorXST1
import Derived.Test.YthlkampfjlkniaaGreatDoorXST2
import Derived.Test.YthlkampfjlkniaaGreatDoorK1
namespace Go.Proofs.YthlkampfjlkniaaGreatDoor
open Go Go.Ab Go.ChangeShapes Go.WideShapes Go.ChangeAt Go.RowKit
set_option maxRecDepth 100000
set_option maxHeartbeats 4000000
set_option linter.all false
theorem deriveOr_lifted(os:Os)(started:os.Started)(H:Type)(enc:TypeId×Value→H):
 ReturnsInHanded {} Tryz.checked os 4 .any (fun w args=>(Rows.deriveOrSpec.pre enc Tryz.prog Tryz.f4 [] false w args∧laidMetH Tryz.prog theLaid w)∧sizedMet enc Tryz.prog Tryz.f4 (OpenSpec.ofChange Rows.deriveOrSpec) false w args)
  (Rows.deriveOrSpec.post enc Tryz.prog Tryz.f4 false true false false):=by
 refine returnsInHanded_of_change_and (C:=Tryz.checked) (X:=fun w _=>laidMetH Tryz.prog theLaid w) (fun _ _ _ hh h=>h.of_heap hh) own started (by kernel_rfl) Tryz.func4
  (ChangeSpec.witness_shaped (enc:=enc) (C:=Tryz.checked) (os:=os) (X:=fun w _=>laidMetH Tryz.prog theLaid w) false (World.laidAll Tryz.prog os theLaid) #[.slice none 0 0] 8 (World.laidAll_os _ _ _)
   (World.shaped_of_ZipB (by kernel_rfl) (by kernel_rfl)) (by kernel_rfl) (by kernel_rfl) (by kernel_rfl)
   (by rw[MakeChecks.laidMetH_plain _ _ _ (by kernel_rfl)];exact laidMet_laidAll _ (by kernel_rfl) (by kernel_rfl))) ?_
 intro W base args ds gs before hval0 hW _ _ hL _
 have hW':=hW
 obtain⟨p,q,hA0,hV,rfl,_,_⟩:=hW
 have hA:DataW.TrodAll enc Tryz.prog W 0 (fun _=>true) true [22] args.toList ds p:=hA0
 obtain⟨v0,d0,rfl,rfl,h0⟩:=trodAll_one hA
 obtain⟨rfl,rfl⟩:=trodVars_none hV
 obtain⟨keep,vs,⟨l,rfl,_⟩,hlen,hrel⟩:=arg_of h0 ints_good
 have hval:Value.okWide Tryz.prog W .any base 22 v0:=hval0 0 22 v0 rfl rfl
 have hcells:=slice_val (show Tryz.prog.underlying 22=some (.slice 3) by kernel_rfl) hval
 have hv0:VRel (gh0 W) (·<0) W v0 (.s .int l):= .data (rel_one hcells ⟨hlen,hrel⟩)
 refine(law_calls (deriveOr_c l) (ar_glob hL) (vs:=[v0]) rfl ?_).mono fun e W' ⟨he,hold,hos,hout⟩=> ?_
 ·intro i v c hv hc
  cases i with
  |zero=>simp at hv hc;subst hv;subst hc;exact hv0
  |succ i=>simp at hv
 subst he
 refine⟨_,rfl,_,_,_,[],p,[],hW',?_,?_,?_,kept_of_old hold hos hout _,fun h=>by cases h⟩
 ·exact trodAll_mk1 (shut_bool (show Tryz.prog.underlying 4=some .bool by kernel_rfl) true)
 ·exact trodAll_mk1 (keep W' _ hold fun b hb=>by simpa using hb)
 ·rfl
theorem deriveOr_holds:Rows.DeriveOrSaid:=
 OpenClaim.holds_of_wide 4 Tryz.f4 rfl rfl rfl rfl rfl rfl rfl ⟨rfl,rfl,rfl,rfl,rfl⟩ rfl rfl rfl rfl rfl (by kernel_rfl) Tryz.func4 (by kernel_rfl)
  (of_decide_eq_true (by kernel_rfl)) (by unfold Func.isWrapper;rw[if_neg (of_decide_eq_false (by kernel_rfl))];exact⟨rfl,rfl⟩)
  (fun os started H enc _=>deriveOr_lifted os started H enc)
theorem deriveOr_card:Rows.DeriveOrCardSaid:=
 Claim7.holds_tied_plain_at .later [] [.data,.data] true (true,"5d042460c1aafbb44b3ac00403caafb2d08c31edd5743cbf66546627bafeee94") true
  deriveOr_holds (fun _ h=>by cases h) (by kernel_rfl) (fun _ h=>by cases h) deriveOr_row_tie rfl ⟨rfl,rfl⟩ (by kernel_rfl) rfl
  (fun f fn hf hfn=>by
   obtain rfl:f=4:=Option.some.inj ((show Tryz.prog.funcNamed "proofprograms/proofprogramslaw12.DeriveOr" =some 4 by kernel_rfl).symm.trans hf)|>.symm
   obtain rfl:fn=Tryz.f4:=(Option.some.inj (Tryz.func4.symm.trans hfn)).symm
   exact⟨by kernel_rfl,fun j t ht=>by
    rw[Tryz.params4] at ht
    have h3:t=22:=by
     rcases j with _|j
     ·simpa using ht.symm
     ·simp at ht
    subst h3
    exact(show Tryz.prog.wantsStandIn 22=false by kernel_rfl)⟩)
  (by kernel_rfl)
#print axioms deriveOr_card
end Go.Proofs.YthlkampfjlkniaaGreatDoor
