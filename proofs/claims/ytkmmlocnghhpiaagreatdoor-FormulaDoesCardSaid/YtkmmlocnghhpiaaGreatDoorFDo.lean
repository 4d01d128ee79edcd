/- The law FormulaDoes of layer 7 is proved, for all inputs, without any conditions. -/
import Derived.Test.YtkmmlocnghhpiaaGreatDoorK1
import Derived.Test.YtkmmlocnghhpiaaGreatDoorST3
import Derived.Test.YtkmmlocnghhpiaaGreatDoorA3
namespace Go.Proofs.YtkmmlocnghhpiaaGreatDoor
open Go Go.Ab Go.ChangeShapes Go.WideShapes Go.ChangeAt Go.RowKit
set_option maxRecDepth 100000
set_option maxHeartbeats 4000000
set_option linter.all false
def dataT:DataT Tryz.prog:={ti:=3,ty:=25,tys:=23,tm:=31,tms:=26,h0:=by kernel_rfl,h1:=by kernel_rfl,h2:=by kernel_rfl,h3:=by kernel_rfl,h4:=by kernel_rfl,h5:=by kernel_rfl,h6:=by kernel_rfl,h7:=by kernel_rfl,h8:=by kernel_rfl}
def formT:FormT Tryz.prog:={dataT with fm:=29,fms:=27,k1:=by kernel_rfl,k2:=by kernel_rfl,k3:=by kernel_rfl,k4:=by kernel_rfl}
theorem formulaDoes_lifted(os:Os)(started:os.Started)(H:Type)(enc:TypeId×Value→H):
 ReturnsInHanded {} Tryz.checked os 3 .any (fun w args=>(Rows.formulaDoesSpec.pre enc Tryz.prog Tryz.f3 [] false w args∧laidMetH Tryz.prog theLaid w)∧sizedMet enc Tryz.prog Tryz.f3 (OpenSpec.ofChange Rows.formulaDoesSpec) false w args)
  (Rows.formulaDoesSpec.post enc Tryz.prog Tryz.f3 false true false false):=by
 refine returnsInHanded_of_change_and (C:=Tryz.checked) (X:=fun w _=>laidMetH Tryz.prog theLaid w) (fun _ _ _ hh h=>h.of_heap hh) own started (by kernel_rfl) Tryz.func3
  (ChangeSpec.witness_shaped (enc:=enc) (C:=Tryz.checked) (os:=os) (X:=fun w _=>laidMetH Tryz.prog theLaid w) false (World.laidAll Tryz.prog os theLaid) #[.slice none 0 0,.agg #[.int .i64 0,.int .i64 0,.slice none 0 0,.slice none 0 0,.slice none 0 0],.agg #[.int .i64 0,.int .i64 0,.slice none 0 0,.slice none 0 0,.slice none 0 0],.slice none 0 0,.agg #[.int .i64 0,.int .i64 0,.int .i64 0,.slice none 0 0,.slice none 0 0],.int .i64 0,.int .i64 0] 8 (World.laidAll_os _ _ _)
   (World.shaped_of_ZipB (by kernel_rfl) (by kernel_rfl)) (by kernel_rfl) (by kernel_rfl) (by kernel_rfl)
   (by rw[MakeChecks.laidMetH_plain _ _ _ (by kernel_rfl)];exact laidMet_laidAll _ (by kernel_rfl) (by kernel_rfl))) ?_
 intro W base args ds gs before hval0 hW _ hwt hL _
 have hwt0:(DataW.weightsEach Tryz.prog ([22,29,29,23,31,3,3]++[]) (ds++gs)).all (·≤reachBytes)=true:=hwt
 have hW':=hW
 obtain⟨p,q,hA0,hV,rfl,_,_⟩:=hW
 have hA:DataW.TrodAll enc Tryz.prog W 0 (fun _=>true) true [22,29,29,23,31,3,3] args.toList ds p:=hA0
 obtain⟨rfl,rfl⟩:=trodVars_none hV
 obtain⟨v0,vs1,d0,ds1,p0,q1,hargs,rfl,rfl,h0,hA1⟩:=trodAll_cons hA
 obtain⟨v1,vs2,d1,ds2,p1,q2,rfl,rfl,rfl,h1,hA2⟩:=trodAll_cons hA1
 obtain⟨v2,vs3,d2,ds3,p2,q3,rfl,rfl,rfl,h2,hA3⟩:=trodAll_cons hA2
 obtain⟨v3,vs4,d3,ds4,p3,q4,rfl,rfl,rfl,h3,hA4⟩:=trodAll_cons hA3
 obtain⟨v4,vs5,d4,ds5,p4,q5,rfl,rfl,rfl,h4,hA5⟩:=trodAll_cons hA4
 obtain⟨v5,vs6,d5,ds6,p5,q6,rfl,rfl,rfl,h5,hA6⟩:=trodAll_cons hA5
 obtain⟨v6,vs7,d6,ds7,p6,q7,rfl,rfl,rfl,h6,hA7⟩:=trodAll_cons hA6
 obtain⟨rfl,rfl,rfl⟩:=trodAll_nil hA7
 obtain rfl:args= #[v0,v1,v2,v3,v4,v5,v6]:=by cases args;simp_all
 obtain⟨keep0,x0,hv0,w0⟩:=arg_ints (show Tryz.prog.underlying 22=some (.slice 3) by kernel_rfl) (by kernel_rfl) (by kernel_rfl) h0 (hval0 0 22 v0 rfl rfl)
 obtain⟨keep1,x1,hv1,w1⟩:=arg_fmw formT h1 (hval0 1 29 v1 rfl rfl)
 obtain⟨keep2,x2,hv2⟩:=arg_fm formT h2 (hval0 2 29 v2 rfl rfl)
 obtain⟨keep3,x3,hv3,w3⟩:=arg_tys dataT h3 (hval0 3 23 v3 rfl rfl)
 obtain⟨keep4,x4,hv4⟩:=arg_tm dataT h4 (hval0 4 31 v4 rfl rfl)
 obtain⟨keep5,x5,hv5,w5⟩:=arg_int (show Tryz.prog.underlying 3=some (.int .i64) by kernel_rfl) h5 (hval0 5 3 v5 rfl rfl)
 obtain⟨keep6,x6,hv6,w6⟩:=arg_int (show Tryz.prog.underlying 3=some (.int .i64) by kernel_rfl) h6 (hval0 6 3 v6 rfl rfl)
 rw[List.append_nil,List.append_nil] at hwt0
 obtain⟨wt0,hwt1⟩:=weights_cons hwt0
 obtain⟨wt1,hwt2⟩:=weights_cons hwt1
 obtain⟨wt2,hwt3⟩:=weights_cons hwt2
 obtain⟨wt3,hwt4⟩:=weights_cons hwt3
 have hgl:x3.length≤5000000000000:=by
  have h:=sl_len (show Tryz.prog.underlying 23=some (.slice 25) by kernel_rfl) h3 hv3 wt3
  rw[show Tryz.prog.bytesOf 25=32 by kernel_rfl] at h
  unfold reachBytes at h
  omega
 refine(law_calls (formulaDoes_c x0 x1 x2 x3 x4 x5 x6 hgl w1) (ar_glob hL) (vs:=[v0,v1,v2,v3,v4,v5,v6]) rfl ?_).mono fun e W' ⟨he,hold,hos,hout⟩=> ?_
 ·intro i v c hv hc
  match i with
  |0=>simp at hv hc;subst hv;subst hc;exact hv0
  |1=>simp at hv hc;subst hv;subst hc;exact hv1
  |2=>simp at hv hc;subst hv;subst hc;exact hv2
  |3=>simp at hv hc;subst hv;subst hc;exact hv3
  |4=>simp at hv hc;subst hv;subst hc;exact hv4
  |5=>simp at hv hc;subst hv;subst hc;exact hv5
  |6=>simp at hv hc;subst hv;subst hc;exact hv6
  |i+7=>simp at hv
 subst he
 refine⟨_,rfl,_,_,_,[],(p0++(p1++(p2++(p3++(p4++(p5++(p6++[]))))))),[],hW',?_,?_,?_,kept_of_old hold hos hout _,fun h=>by cases h⟩
 ·exact trodAll_mk1 (shut_bool (show Tryz.prog.underlying 4=some .bool by kernel_rfl) true)
 ·have hb:∀b,b<W.heap.size→(fun b:Nat=>decide (b<W.heap.size)) b=true:=fun b hb=>by simpa using hb
  exact(trodAll_cons_mk (keep0 W' _ hold hb) (trodAll_cons_mk (keep1 W' _ hold hb) (trodAll_cons_mk (keep2 W' _ hold hb) (trodAll_cons_mk (keep3 W' _ hold hb) (trodAll_cons_mk (keep4 W' _ hold hb) (trodAll_cons_mk (keep5 W' _ hold hb) (trodAll_cons_mk (keep6 W' _ hold hb) trodAll_mk0)))))))
 ·rfl
theorem formulaDoes_holds:Rows.FormulaDoesSaid:=
 OpenClaim.holds_of_wide 3 Tryz.f3 rfl rfl rfl rfl rfl rfl rfl ⟨rfl,rfl,rfl,rfl,rfl⟩ rfl rfl rfl rfl rfl (by kernel_rfl) Tryz.func3 (by kernel_rfl)
  (of_decide_eq_true (by kernel_rfl)) (by unfold Func.isWrapper;rw[if_neg (of_decide_eq_false (by kernel_rfl))];exact⟨rfl,rfl⟩)
  (fun os started H enc _=>formulaDoes_lifted os started H enc)
theorem formulaDoes_card:Rows.FormulaDoesCardSaid:=
 Claim7.holds_tied_plain_at .later [] [.data] true (true,"eeeb3ae4f1528869880ea8cf16ac3629de58f233e1057a3f7804296601321b9e") false
  formulaDoes_holds (fun _ h=>by cases h) (by kernel_rfl) (fun _ h=>by cases h) formulaDoes_row_tie rfl ⟨rfl,rfl⟩ (by kernel_rfl) rfl
  (fun f fn hf hfn=>by
   obtain rfl:f=3:=Option.some.inj ((show Tryz.prog.funcNamed "proofprograms/proofprogramslaw07.FormulaDoes" =some 3 by kernel_rfl).symm.trans hf)|>.symm
   obtain rfl:fn=Tryz.f3:=(Option.some.inj (Tryz.func3.symm.trans hfn)).symm
   exact⟨by kernel_rfl,fun j t ht=>by
    rw[Tryz.params3] at ht
    rcases j with _|_|_|_|_|_|_|j
    ·obtain rfl:22=t:=by simpa using ht
     exact(show Tryz.prog.wantsStandIn 22=false by kernel_rfl)
    ·obtain rfl:29=t:=by simpa using ht
     exact(show Tryz.prog.wantsStandIn 29=false by kernel_rfl)
    ·obtain rfl:29=t:=by simpa using ht
     exact(show Tryz.prog.wantsStandIn 29=false by kernel_rfl)
    ·obtain rfl:23=t:=by simpa using ht
     exact(show Tryz.prog.wantsStandIn 23=false by kernel_rfl)
    ·obtain rfl:31=t:=by simpa using ht
     exact(show Tryz.prog.wantsStandIn 31=false by kernel_rfl)
    ·obtain rfl:3=t:=by simpa using ht
     exact(show Tryz.prog.wantsStandIn 3=false by kernel_rfl)
    ·obtain rfl:3=t:=by simpa using ht
     exact(show Tryz.prog.wantsStandIn 3=false by kernel_rfl)
    ·simp at ht⟩)
  (by kernel_rfl)
#print axioms formulaDoes_card
end Go.Proofs.YtkmmlocnghhpiaaGreatDoor
