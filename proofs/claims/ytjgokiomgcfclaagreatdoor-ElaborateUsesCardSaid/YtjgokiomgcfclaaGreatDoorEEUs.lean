/- The law ElaborateUses of layer 18 is proved, without any conditions. -/
import Derived.Test.YtjgokiomgcfclaaGreatDoorEK1
import Derived.Test.YtjgokiomgcfclaaGreatDoorEST5
namespace Go.Proofs.YtjgokiomgcfclaaGreatDoor
open Go Go.Ab Go.ChangeShapes Go.WideShapes Go.ChangeAt Go.RowKit
set_option maxRecDepth 100000
set_option maxHeartbeats 4000000
set_option linter.all false
theorem elaborateUses_lifted(os:Os)(started:os.Started)(H:Type)(enc:TypeId×Value->H):
 ReturnsInHanded {} Tryz.checked os 4 .any (fun w args=>(Rows.elaborateUsesSpec.pre enc Tryz.prog Tryz.f4 [] false w args/\laidMetH Tryz.prog JX w)/\sizedMet enc Tryz.prog Tryz.f4 (OpenSpec.ofChange Rows.elaborateUsesSpec) false w args)
  (Rows.elaborateUsesSpec.post enc Tryz.prog Tryz.f4 false true false false):=by
 refine returnsInHanded_of_change_and (C:=Tryz.checked) (X:=fun w _=>laidMetH Tryz.prog JX w) (fun _ _ _ hh h=>h.of_heap hh) own started (by kernel_rfl) Tryz.func4
  (ChangeSpec.witness_shaped (enc:=enc) (C:=Tryz.checked) (os:=os) (X:=fun w _=>laidMetH Tryz.prog JX w) false (World.laidAll Tryz.prog os JX) #[.slice none 0 0,.bool false,.int .i64 0] 8 (World.laidAll_os _ _ _)
   (World.shaped_of_ZipB (by kernel_rfl) (by kernel_rfl)) (by kernel_rfl) (by kernel_rfl) (by kernel_rfl)
   (by rw[MakeChecks.laidMetH_plain _ _ _ (by kernel_rfl)];exact laidMet_laidAll _ (by kernel_rfl) (by kernel_rfl))) ?_
 intro W base args ds gs before hval0 hW _ _ hL _;have hW':=hW;obtain⟨p,q,hA0,hV,rfl,_,_⟩:=hW;have hA:DataW.TrodAll enc Tryz.prog W 0 (fun _=>true) true [40,4,3] args.toList ds p:=hA0;obtain⟨rfl,rfl⟩:=trodVars_none hV;obtain⟨v0,vs1,d0,ds1,p0,q1,hargs,rfl,rfl,h0,hA1⟩:=trodAll_cons hA;obtain⟨v1,vs2,d1,ds2,p1,q2,rfl,rfl,rfl,h1,hA2⟩:=trodAll_cons hA1;obtain⟨v2,vs3,d2,ds3,p2,q3,rfl,rfl,rfl,h2,hA3⟩:=trodAll_cons hA2;obtain⟨rfl,rfl,rfl⟩:=trodAll_nil hA3;obtain rfl:args= #[v0,v1,v2]:=by cases args;simp_all
 obtain⟨keep0,x0,hv0,w0⟩:=Zyu (show Tryz.prog.underlying 40=some (.slice 3) by kernel_rfl) (by kernel_rfl) (by kernel_rfl) h0 (hval0 0 40 v0 rfl rfl);obtain⟨keep1,x1,hv1⟩:=Zyw (show Tryz.prog.underlying 4=some .bool by kernel_rfl) h1 (hval0 1 4 v1 rfl rfl);obtain⟨keep2,x2,hv2,w2⟩:=Ydw (show Tryz.prog.underlying 3=some (.int .i64) by kernel_rfl) h2 (hval0 2 3 v2 rfl rfl);refine(Zu6 (Zh1 x0 x1 x2 (Yfw w2)) (Yd2 hL) (vs:=[v0,v1,v2]) rfl ?_).mono fun e W' ⟨he,hold,hos,hout⟩=> ?_
 ·intro i v c hv hc
  match i with
  |0=>simp at hv hc;subst hv;subst hc;exact hv0
  |1=>simp at hv hc;subst hv;subst hc;exact hv1
  |2=>simp at hv hc;subst hv;subst hc;exact hv2
  |i+3=>simp at hv
 subst he;refine⟨_,rfl,_,_,_,[],(p0++(p1++(p2++[]))),[],hW',?_,?_,?_,Zoj hold hos hout _,fun h=>by cases h⟩
 ·exact trodAll_mk1 (shut_bool (show Tryz.prog.underlying 4=some .bool by kernel_rfl) true)
 ·have hb:∀b,b<W.heap.size->(fun b:Nat=>decide (b<W.heap.size)) b=true:=fun b hb=>by simpa using hb
  exact(trodAll_cons_mk (keep0 W' _ hold hb) (trodAll_cons_mk (keep1 W' _ hold hb) (trodAll_cons_mk (keep2 W' _ hold hb) trodAll_mk0)))
 ·rfl
theorem elaborateUses_holds:Rows.ElaborateUsesSaid:=
 OpenClaim.holds_of_wide 4 Tryz.f4 rfl rfl rfl rfl rfl rfl rfl ⟨rfl,rfl,rfl,rfl,rfl⟩ rfl rfl rfl rfl rfl (by kernel_rfl) Tryz.func4 (by kernel_rfl)
  (of_decide_eq_true (by kernel_rfl)) (by unfold Func.isWrapper;rw[if_neg (of_decide_eq_false (by kernel_rfl))];exact⟨rfl,rfl⟩)
  (fun os started H enc _=>elaborateUses_lifted os started H enc)
theorem elaborateUses_card:Rows.ElaborateUsesCardSaid:=
 Claim7.holds_tied_plain_at .later [] [.data] true (true,"47d0cfe3fcc9ee1d203e39f306871a1c6c0c73c69253e50471d240c4d1f721ff") false
  elaborateUses_holds (fun _ h=>by cases h) (by kernel_rfl) (fun _ h=>by cases h) elaborateUses_row_tie rfl ⟨rfl,rfl⟩ (by kernel_rfl) rfl
  (fun f fn hf hfn=>by
   obtain rfl:f=4:=Option.some.inj ((show Tryz.prog.funcNamed "proofprograms/proofprogramslaw18.ElaborateUses" =some 4 by kernel_rfl).symm.trans hf)|>.symm;obtain rfl:fn=Tryz.f4:=(Option.some.inj (Tryz.func4.symm.trans hfn)).symm;exact⟨by kernel_rfl,fun j t ht=>by
    rw[Tryz.params4] at ht;rcases j with _|_|_|j
    ·obtain rfl:40=t:=by simpa using ht
     exact(show Tryz.prog.wantsStandIn 40=false by kernel_rfl)
    ·obtain rfl:4=t:=by simpa using ht
     exact(show Tryz.prog.wantsStandIn 4=false by kernel_rfl)
    ·obtain rfl:3=t:=by simpa using ht
     exact(show Tryz.prog.wantsStandIn 3=false by kernel_rfl)
    ·simp at ht⟩)
  (by kernel_rfl)
#print axioms elaborateUses_card
end Go.Proofs.YtjgokiomgcfclaaGreatDoor
