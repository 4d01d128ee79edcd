/- The law TermsDoes of layer 2 is proved, for all inputs, without any conditions. -/
import Derived.Test.YtecbeopjdkdboaaDoorK1
import Derived.Test.YtecbeopjdkdboaaDoorST1
import Derived.Test.YtecbeopjdkdboaaDoorA3
namespace Go.Proofs.YtecbeopjdkdboaaDoor
open Go Go.Ab Go.ChangeShapes Go.WideShapes Go.ChangeAt Go.RowKit
set_option maxRecDepth 100000
set_option maxHeartbeats 4000000
set_option linter.all false
def dataT:DataT Tryd.prog:={ti:=3,ty:=25,tys:=23,tm:=28,tms:=26,h0:=by kernel_rfl,h1:=by kernel_rfl,h2:=by kernel_rfl,h3:=by kernel_rfl,h4:=by kernel_rfl,h5:=by kernel_rfl,h6:=by kernel_rfl,h7:=by kernel_rfl,h8:=by kernel_rfl}
theorem termsDoes_lifted(os:Os)(started:os.Started)(H:Type)(enc:TypeId×Value→H):
 ReturnsInHanded {} Tryd.checked os 3 .any (fun w args=>(Rows.termsDoesSpec.pre enc Tryd.prog Tryd.f3 [] false w args∧laidMetH Tryd.prog theLaid w)∧sizedMet enc Tryd.prog Tryd.f3 (OpenSpec.ofChange Rows.termsDoesSpec) false w args)
  (Rows.termsDoesSpec.post enc Tryd.prog Tryd.f3 false true false false):=by
 refine returnsInHanded_of_change_and (C:=Tryd.checked) (X:=fun w _=>laidMetH Tryd.prog theLaid w) (fun _ _ _ hh h=>h.of_heap hh) own started (by kernel_rfl) Tryd.func3
  (ChangeSpec.witness_shaped (enc:=enc) (C:=Tryd.checked) (os:=os) (X:=fun w _=>laidMetH Tryd.prog theLaid w) false (World.laidAll Tryd.prog os theLaid) #[.slice none 0 0,.agg #[.int .i64 0,.int .i64 0,.int .i64 0,.slice none 0 0,.slice none 0 0],.slice none 0 0,.agg #[.int .i64 0,.slice none 0 0],.slice none 0 0] 8 (World.laidAll_os _ _ _)
   (World.shaped_of_ZipB (by kernel_rfl) (by kernel_rfl)) (by kernel_rfl) (by kernel_rfl) (by kernel_rfl)
   (by rw[MakeChecks.laidMetH_plain _ _ _ (by kernel_rfl)];exact laidMet_laidAll _ (by kernel_rfl) (by kernel_rfl))) ?_
 intro W base args ds gs before hval0 hW _ hwt hL _
 have hwt0:(DataW.weightsEach Tryd.prog ([22,28,23,25,26]++[]) (ds++gs)).all (·≤reachBytes)=true:=hwt
 have hW':=hW
 obtain⟨p,q,hA0,hV,rfl,_,_⟩:=hW
 have hA:DataW.TrodAll enc Tryd.prog W 0 (fun _=>true) true [22,28,23,25,26] args.toList ds p:=hA0
 obtain⟨rfl,rfl⟩:=trodVars_none hV
 obtain⟨v0,vs1,d0,ds1,p0,q1,hargs,rfl,rfl,h0,hA1⟩:=trodAll_cons hA
 obtain⟨v1,vs2,d1,ds2,p1,q2,rfl,rfl,rfl,h1,hA2⟩:=trodAll_cons hA1
 obtain⟨v2,vs3,d2,ds3,p2,q3,rfl,rfl,rfl,h2,hA3⟩:=trodAll_cons hA2
 obtain⟨v3,vs4,d3,ds4,p3,q4,rfl,rfl,rfl,h3,hA4⟩:=trodAll_cons hA3
 obtain⟨v4,vs5,d4,ds5,p4,q5,rfl,rfl,rfl,h4,hA5⟩:=trodAll_cons hA4
 obtain⟨rfl,rfl,rfl⟩:=trodAll_nil hA5
 obtain rfl:args= #[v0,v1,v2,v3,v4]:=by cases args;simp_all
 obtain⟨keep0,x0,hv0,w0⟩:=arg_ints (show Tryd.prog.underlying 22=some (.slice 3) by kernel_rfl) (by kernel_rfl) (by kernel_rfl) h0 (hval0 0 22 v0 rfl rfl)
 obtain⟨keep1,x1,hv1⟩:=arg_tm dataT h1 (hval0 1 28 v1 rfl rfl)
 obtain⟨keep2,x2,hv2,w2⟩:=arg_tys dataT h2 (hval0 2 23 v2 rfl rfl)
 obtain⟨keep3,x3,hv3⟩:=arg_ty dataT h3 (hval0 3 25 v3 rfl rfl)
 obtain⟨keep4,x4,hv4,w4⟩:=arg_tms dataT h4 (hval0 4 26 v4 rfl rfl)
 rw[List.append_nil,List.append_nil] at hwt0
 obtain⟨_,hwt1⟩:=weights_cons hwt0
 obtain⟨_,hwt2⟩:=weights_cons hwt1
 obtain⟨wt2,hwt3⟩:=weights_cons hwt2
 obtain⟨_,hwt4⟩:=weights_cons hwt3
 obtain⟨wt4,_⟩:=weights_cons hwt4
 have hgl:x2.length≤5000000000000:=by
  have h:=sl_len (show Tryd.prog.underlying 23=some (.slice 25) by kernel_rfl) h2 hv2 wt2
  rw[show Tryd.prog.bytesOf 25=32 by kernel_rfl] at h
  unfold reachBytes at h
  omega
 have htl:x4.length≤2000000000000:=by
  have h:=sl_len (show Tryd.prog.underlying 26=some (.slice 28) by kernel_rfl) h4 hv4 wt4
  rw[show Tryd.prog.bytesOf 28=72 by kernel_rfl] at h
  unfold reachBytes at h
  omega
 refine(law_calls (termsDoes_c x0 x1 x2 x3 x4 hgl htl) (ar_glob hL) (vs:=[v0,v1,v2,v3,v4]) rfl ?_).mono fun e W' ⟨he,hold,hos,hout⟩=> ?_
 ·intro i v c hv hc
  match i with
  |0=>simp at hv hc;subst hv;subst hc;exact hv0
  |1=>simp at hv hc;subst hv;subst hc;exact hv1
  |2=>simp at hv hc;subst hv;subst hc;exact hv2
  |3=>simp at hv hc;subst hv;subst hc;exact hv3
  |4=>simp at hv hc;subst hv;subst hc;exact hv4
  |i+5=>simp at hv
 subst he
 refine⟨_,rfl,_,_,_,[],(p0++(p1++(p2++(p3++(p4++[]))))),[],hW',?_,?_,?_,kept_of_old hold hos hout _,fun h=>by cases h⟩
 ·exact trodAll_mk1 (shut_bool (show Tryd.prog.underlying 4=some .bool by kernel_rfl) true)
 ·have hb:∀b,b<W.heap.size→(fun b:Nat=>decide (b<W.heap.size)) b=true:=fun b hb=>by simpa using hb
  exact(trodAll_cons_mk (keep0 W' _ hold hb) (trodAll_cons_mk (keep1 W' _ hold hb) (trodAll_cons_mk (keep2 W' _ hold hb) (trodAll_cons_mk (keep3 W' _ hold hb) (trodAll_cons_mk (keep4 W' _ hold hb) trodAll_mk0)))))
 ·rfl
theorem termsDoes_holds:Rows.TermsDoesSaid:=
 OpenClaim.holds_of_wide 3 Tryd.f3 rfl rfl rfl rfl rfl rfl rfl ⟨rfl,rfl,rfl,rfl,rfl⟩ rfl rfl rfl rfl rfl (by kernel_rfl) Tryd.func3 (by kernel_rfl)
  (of_decide_eq_true (by kernel_rfl)) (by unfold Func.isWrapper;rw[if_neg (of_decide_eq_false (by kernel_rfl))];exact⟨rfl,rfl⟩)
  (fun os started H enc _=>termsDoes_lifted os started H enc)
theorem termsDoes_card:Rows.TermsDoesCardSaid:=
 Claim7.holds_tied_plain_at .later [] [.data] true (true,"d50dd329b939ce0055ef22d47cb0452b91a8eea7d13d0f0b8597c9e25059c7d9") false
  termsDoes_holds (fun _ h=>by cases h) (by kernel_rfl) (fun _ h=>by cases h) termsDoes_row_tie rfl ⟨rfl,rfl⟩ (by kernel_rfl) rfl
  (fun f fn hf hfn=>by
   obtain rfl:f=3:=Option.some.inj ((show Tryd.prog.funcNamed "proofprograms/proofprogramslaw02.TermsDoes" =some 3 by kernel_rfl).symm.trans hf)|>.symm
   obtain rfl:fn=Tryd.f3:=(Option.some.inj (Tryd.func3.symm.trans hfn)).symm
   exact⟨by kernel_rfl,fun j t ht=>by
    rw[Tryd.params3] at ht
    rcases j with _|_|_|_|_|j
    ·obtain rfl:22=t:=by simpa using ht
     exact(show Tryd.prog.wantsStandIn 22=false by kernel_rfl)
    ·obtain rfl:28=t:=by simpa using ht
     exact(show Tryd.prog.wantsStandIn 28=false by kernel_rfl)
    ·obtain rfl:23=t:=by simpa using ht
     exact(show Tryd.prog.wantsStandIn 23=false by kernel_rfl)
    ·obtain rfl:25=t:=by simpa using ht
     exact(show Tryd.prog.wantsStandIn 25=false by kernel_rfl)
    ·obtain rfl:26=t:=by simpa using ht
     exact(show Tryd.prog.wantsStandIn 26=false by kernel_rfl)
    ·simp at ht⟩)
  (by kernel_rfl)
#print axioms termsDoes_card
end Go.Proofs.YtecbeopjdkdboaaDoor
