/- The law CutKeeps of layer 13 is proved, without any conditions. -/
import Derived.Test.YtmhcohcihajegaaGreatDoorCS31
namespace Go.Proofs.YtmhcohcihajegaaGreatDoor
open Go Go.Ab Go.ChangeShapes Go.WideShapes Go.ChangeAt Go.RowKit
set_option maxRecDepth 100000
set_option maxHeartbeats 4000000
set_option linter.all false
theorem cutKeeps_lifted(os:Os)(started:os.Started)(H:Type)(enc:TypeId×Value->H):
 ReturnsInHanded {} Tryz.checked os 3 .any (fun w args=>(Rows.cutKeepsSpec.pre enc Tryz.prog Tryz.f3 [] false w args/\laidMetH Tryz.prog K2 w)/\sizedMet enc Tryz.prog Tryz.f3 (OpenSpec.ofChange Rows.cutKeepsSpec) false w args)
  (Rows.cutKeepsSpec.post enc Tryz.prog Tryz.f3 false true false false):=by
 refine returnsInHanded_of_change_and (C:=Tryz.checked) (X:=fun w _=>laidMetH Tryz.prog K2 w) (fun _ _ _ hh h=>h.of_heap hh) own started kA Tryz.func3
  (ChangeSpec.witness_shaped (enc:=enc) (C:=Tryz.checked) (os:=os) (X:=fun w _=>laidMetH Tryz.prog K2 w) false (World.laidAll Tryz.prog os K2) #[.slice none 0 0] 8 (World.laidAll_os _ _ _)
   (World.shaped_of_ZipB kA kA) kA kA kA
   (by rw[MakeChecks.laidMetH_plain _ _ _ kA];exact laidMet_laidAll _ kA kA)) ?_
 intro W base args ds gs before hval0 hW _ _ hL _;have hW':=hW;obtain⟨p,q,hA0,hV,rfl,_,_⟩:=hW;have hA:DataW.TrodAll enc Tryz.prog W 0 (fun _=>true) true [22] args.toList ds p:=hA0;obtain⟨rfl,rfl⟩:=trodVars_none hV;obtain⟨v0,vs1,d0,ds1,p0,q1,hargs,rfl,rfl,h0,hA1⟩:=trodAll_cons hA;obtain⟨rfl,rfl,rfl⟩:=trodAll_nil hA1;obtain rfl:args= #[v0]:=by cases args;simp_all
 obtain⟨Qo,x0,hv0,w0⟩:=Yfc (show Tryz.prog.underlying 22=some (.slice 3) by kernel_rfl) kA kA h0 (hval0 0 22 v0 rfl rfl);refine(Zzg (Zyo x0) (Yka hL) (vs:=[v0]) rfl ?_).mono fun e W' ⟨he,hold,hos,hout⟩=> ?_
 .intro i v c hv hc
  match i with
  |0=>simp at hv hc;subst hv;subst hc;exact hv0
  |i+1=>simp at hv
 subst he;refine⟨_,rfl,_,_,_,[],(p0++[]),[],hW',?_,?_,?_,Ztj hold hos hout _,fun h=>kM⟩
 .exact trodAll_mk1 (shut_bool (show Tryz.prog.underlying 4=some .bool by kernel_rfl) true)
 .have hb:∀b,b<W.heap.size->(fun b:Nat=>decide (b<W.heap.size)) b=true:=fun b hb=>by simpa using hb
  exact(trodAll_cons_mk (Qo W' _ hold hb) trodAll_mk0)
 .rfl
theorem cutKeeps_holds:Rows.CutKeepsSaid:=
 OpenClaim.holds_of_wide 3 Tryz.f3 rfl rfl rfl rfl rfl rfl rfl ⟨rfl,rfl,rfl,rfl,rfl⟩ rfl rfl rfl rfl rfl kA Tryz.func3 kA
  (of_decide_eq_true kA) (by unfold Func.isWrapper;rw[if_neg (of_decide_eq_false kA)];exact⟨rfl,rfl⟩)
  (fun os started H enc _=>cutKeeps_lifted os started H enc)
theorem cutKeeps_card:Rows.CutKeepsCardSaid:=
 Claim7.holds_tied_plain_at .later [] [.data,.data] true (true,"0c33ae3af875ef1e7c13afb9d366c1650ef161c3be40d04d93c7f1c9e5102eb4") false
  cutKeeps_holds (fun _ h=>kM) kA (fun _ h=>kM) cutKeeps_row_tie rfl ⟨rfl,rfl⟩ kA rfl
  (fun f fn hf hfn=>by
   obtain rfl:f=3:=gV ((show Tryz.prog.funcNamed "proofprograms/proofprogramslaw13.CutKeeps" =some 3 by kernel_rfl).symm.trans hf)|>.symm;obtain rfl:fn=Tryz.f3:=(gV (Tryz.func3.symm.trans hfn)).symm;exact⟨kA,fun j t ht=>by
    rw[Tryz.params3] at ht;rcases j with _|j
    .obtain rfl:22=t:=by simpa using ht
     exact(show Tryz.prog.wantsStandIn 22=false by kernel_rfl)
    .simp at ht⟩)
  kA
#print axioms cutKeeps_card
end Go.Proofs.YtmhcohcihajegaaGreatDoor
