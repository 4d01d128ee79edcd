/- DeriveErrors (law12) answers true for every list of numbers and any raw term, formula and proof: what has no form is refused by its first error. -/
import Derived.Test.YteenjilpjblgeaaGreatDoorK1
import Derived.Test.YteenjilpjblgeaaGreatDoorST5
import Derived.Test.YteenjilpjblgeaaGreatDoorA2
namespace Go.Proofs.YteenjilpjblgeaaGreatDoor
open Go Go.Ab Go.ChangeShapes Go.WideShapes Go.ChangeAt Go.RowKit
set_option maxRecDepth 100000
set_option maxHeartbeats 4000000
set_option linter.all false
def dataT:DataT Tryz.prog:={ti:=3,ty:=25,tys:=23,tm:=33,tms:=27,h0:=by kernel_rfl,h1:=by kernel_rfl,h2:=by kernel_rfl,h3:=by kernel_rfl,h4:=by kernel_rfl,h5:=by kernel_rfl,h6:=by kernel_rfl,h7:=by kernel_rfl,h8:=by kernel_rfl}
def formT:FormT Tryz.prog:={dataT with fm:=30,fms:=28,k1:=by kernel_rfl,k2:=by kernel_rfl,k3:=by kernel_rfl,k4:=by kernel_rfl}
def prfT:PrfT Tryz.prog:={formT with pf:=42,pfs:=40,p1:=by kernel_rfl,p2:=by kernel_rfl,p3:=by kernel_rfl,p4:=by kernel_rfl}
theorem deriveErrors_lifted(os:Os)(started:os.Started)(H:Type)(enc:TypeId×Value→H):
 ReturnsInHanded {} Tryz.checked os 4 .any (fun w args=>(Rows.deriveErrorsSpec.pre enc Tryz.prog Tryz.f4 [] false w args∧laidMetH Tryz.prog theLaid w)∧sizedMet enc Tryz.prog Tryz.f4 (OpenSpec.ofChange Rows.deriveErrorsSpec) false w args)
  (Rows.deriveErrorsSpec.post enc Tryz.prog Tryz.f4 false true false false):=by
 refine returnsInHanded_of_change_and (C:=Tryz.checked) (X:=fun w _=>laidMetH Tryz.prog theLaid w) (fun _ _ _ hh h=>h.of_heap hh) own started (by kernel_rfl) Tryz.func4
  (ChangeSpec.witness_shaped (enc:=enc) (C:=Tryz.checked) (os:=os) (X:=fun w _=>laidMetH Tryz.prog theLaid w) false (World.laidAll Tryz.prog os theLaid) #[.slice none 0 0,.agg #[.int .i64 0,.int .i64 0,.int .i64 0,.slice none 0 0,.slice none 0 0],.agg #[.int .i64 0,.int .i64 0,.slice none 0 0,.slice none 0 0,.slice none 0 0],.agg #[.int .i64 0,.int .i64 0,.int .i64 0,.slice none 0 0,.slice none 0 0,.slice none 0 0,.slice none 0 0]] 8 (World.laidAll_os _ _ _)
   (World.shaped_of_ZipB (by kernel_rfl) (by kernel_rfl)) (by kernel_rfl) (by kernel_rfl) (by kernel_rfl)
   (by rw[MakeChecks.laidMetH_plain _ _ _ (by kernel_rfl)];exact laidMet_laidAll _ (by kernel_rfl) (by kernel_rfl))) ?_
 intro W base args ds gs before hval0 hW _ _ hL _
 have hW':=hW
 obtain⟨p,q,hA0,hV,rfl,_,_⟩:=hW
 have hA:DataW.TrodAll enc Tryz.prog W 0 (fun _=>true) true [44,33,30,42] args.toList ds p:=hA0
 obtain⟨rfl,rfl⟩:=trodVars_none hV
 obtain⟨v0,vs1,d0,ds1,p0,q1,hargs,rfl,rfl,h0,hA1⟩:=trodAll_cons hA
 obtain⟨v1,vs2,d1,ds2,p1,q2,rfl,rfl,rfl,h1,hA2⟩:=trodAll_cons hA1
 obtain⟨v2,vs3,d2,ds3,p2,q3,rfl,rfl,rfl,h2,hA3⟩:=trodAll_cons hA2
 obtain⟨v3,vs4,d3,ds4,p3,q4,rfl,rfl,rfl,h3,hA4⟩:=trodAll_cons hA3
 obtain⟨rfl,rfl,rfl⟩:=trodAll_nil hA4
 obtain rfl:args= #[v0,v1,v2,v3]:=by cases args;simp_all
 obtain⟨keep0,x0,hv0,w0⟩:=arg_ints (show Tryz.prog.underlying 44=some (.slice 3) by kernel_rfl) (by kernel_rfl) (by kernel_rfl) h0 (hval0 0 44 v0 rfl rfl)
 obtain⟨keep1,x1,hv1⟩:=arg_tm dataT h1 (hval0 1 33 v1 rfl rfl)
 obtain⟨keep2,x2,hv2⟩:=arg_fm formT h2 (hval0 2 30 v2 rfl rfl)
 obtain⟨keep3,x3,hv3,w3⟩:=arg_pfw prfT h3 (hval0 3 42 v3 rfl rfl)
 refine(law_calls (deriveErrors_c x0 x1 x2 x3) (ar_glob hL) (vs:=[v0,v1,v2,v3]) rfl ?_).mono fun e W' ⟨he,hold,hos,hout⟩=> ?_
 ·intro i v c hv hc
  match i with
  |0=>simp at hv hc;subst hv;subst hc;exact hv0
  |1=>simp at hv hc;subst hv;subst hc;exact hv1
  |2=>simp at hv hc;subst hv;subst hc;exact hv2
  |3=>simp at hv hc;subst hv;subst hc;exact hv3
  |i+4=>simp at hv
 subst he
 refine⟨_,rfl,_,_,_,[],(p0++(p1++(p2++(p3++[])))),[],hW',?_,?_,?_,kept_of_old hold hos hout _,fun h=>by cases h⟩
 ·exact trodAll_mk1 (shut_bool (show Tryz.prog.underlying 4=some .bool by kernel_rfl) true)
 ·have hb:∀b,b<W.heap.size→(fun b:Nat=>decide (b<W.heap.size)) b=true:=fun b hb=>by simpa using hb
  exact(trodAll_cons_mk (keep0 W' _ hold hb) (trodAll_cons_mk (keep1 W' _ hold hb) (trodAll_cons_mk (keep2 W' _ hold hb) (trodAll_cons_mk (keep3 W' _ hold hb) trodAll_mk0))))
 ·rfl
theorem deriveErrors_holds:Rows.DeriveErrorsSaid:=
 OpenClaim.holds_of_wide 4 Tryz.f4 rfl rfl rfl rfl rfl rfl rfl ⟨rfl,rfl,rfl,rfl,rfl⟩ rfl rfl rfl rfl rfl (by kernel_rfl) Tryz.func4 (by kernel_rfl)
  (of_decide_eq_true (by kernel_rfl)) (by unfold Func.isWrapper;rw[if_neg (of_decide_eq_false (by kernel_rfl))];exact⟨rfl,rfl⟩)
  (fun os started H enc _=>deriveErrors_lifted os started H enc)
theorem deriveErrors_card:Rows.DeriveErrorsCardSaid:=
 Claim7.holds_tied_plain_at .later [] [.data,.data] true (true,"f37a174f95bda1adb09d26273a02e400ee9f4088aab95fb28b34515500708dde") true
  deriveErrors_holds (fun _ h=>by cases h) (by kernel_rfl) (fun _ h=>by cases h) deriveErrors_row_tie rfl ⟨rfl,rfl⟩ (by kernel_rfl) rfl
  (fun f fn hf hfn=>by
   obtain rfl:f=4:=Option.some.inj ((show Tryz.prog.funcNamed "proofprograms/proofprogramslaw12.DeriveErrors" =some 4 by kernel_rfl).symm.trans hf)|>.symm
   obtain rfl:fn=Tryz.f4:=(Option.some.inj (Tryz.func4.symm.trans hfn)).symm
   exact⟨by kernel_rfl,fun j t ht=>by
    rw[Tryz.params4] at ht
    rcases j with _|_|_|_|j
    ·obtain rfl:44=t:=by simpa using ht
     exact(show Tryz.prog.wantsStandIn 44=false by kernel_rfl)
    ·obtain rfl:33=t:=by simpa using ht
     exact(show Tryz.prog.wantsStandIn 33=false by kernel_rfl)
    ·obtain rfl:30=t:=by simpa using ht
     exact(show Tryz.prog.wantsStandIn 30=false by kernel_rfl)
    ·obtain rfl:42=t:=by simpa using ht
     exact(show Tryz.prog.wantsStandIn 42=false by kernel_rfl)
    ·simp at ht⟩)
  (by kernel_rfl)
#print axioms deriveErrors_card
end Go.Proofs.YteenjilpjblgeaaGreatDoor
