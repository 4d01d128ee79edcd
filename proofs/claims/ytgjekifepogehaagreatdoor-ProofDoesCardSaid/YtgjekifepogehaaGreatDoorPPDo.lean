/- ProofDoes holds. -/
import Derived.Test.YtgjekifepogehaaGreatDoorPK1
import Derived.Test.YtgjekifepogehaaGreatDoorPST13
namespace Go.Proofs.YtgjekifepogehaaGreatDoor
open Go Go.Ab Go.ChangeShapes Go.WideShapes Go.ChangeAt Go.RowKit
set_option maxRecDepth 100000
set_option maxHeartbeats 4000000
set_option linter.all false
def VS:DataT Tryz.prog:={ti:=3,ty:=25,tys:=23,tm:=32,AZ:=26,h0:=ew,h1:=ew,h2:=ew,h3:=ew,h4:=ew,h5:=ew,h6:=ew,h7:=ew,h8:=ew}
def Yld:FormT Tryz.prog:={VS with fm:=65,DB:=27,k1:=ew,k2:=ew,k3:=ew,k4:=ew}
def MW:K7 Tryz.prog:={Yld with pf:=30,Nt:=28,p1:=ew,p2:=ew,p3:=ew,p4:=ew}
theorem proofDoes_lifted(os:Os)(started:os.Started)(H:Type)(enc:TypeId×Value->H):
 ReturnsInHanded {} Tryz.checked os 3 .any (fun w args=>(Rows.proofDoesSpec.pre enc Tryz.prog Tryz.f3 [] false w args/\laidMetH Tryz.prog JW w)/\sizedMet enc Tryz.prog Tryz.f3 (OpenSpec.ofChange Rows.proofDoesSpec) false w args)
  (Rows.proofDoesSpec.post enc Tryz.prog Tryz.f3 false true false false):=by
 refine returnsInHanded_of_change_and (C:=Tryz.checked) (X:=fun w _=>laidMetH Tryz.prog JW w) (fun _ _ _ hh h=>h.of_heap hh) own started ew Tryz.func3
  (ChangeSpec.witness_shaped (enc:=enc) (C:=Tryz.checked) (os:=os) (X:=fun w _=>laidMetH Tryz.prog JW w) false (World.laidAll Tryz.prog os JW) #[.slice none 0 0,.agg #[.int .i64 0,.int .i64 0,.int .i64 0,.slice none 0 0,.slice none 0 0,.slice none 0 0,.slice none 0 0],.agg #[.int .i64 0,.int .i64 0,.int .i64 0,.slice none 0 0,.slice none 0 0,.slice none 0 0,.slice none 0 0],.agg #[.int .i64 0,.int .i64 0,.int .i64 0,.slice none 0 0,.slice none 0 0],.int .i64 0,.int .i64 0] 8 (World.laidAll_os _ _ _)
   (World.shaped_of_ZipB ew ew) ew ew ew
   (by rw[MakeChecks.laidMetH_plain _ _ _ ew];exact laidMet_laidAll _ ew ew)) ?_
 intro W base args ds gs before hval0 hW _ _ hL _;have hW':=hW;obtain⟨p,q,hA0,hV,rfl,_,_⟩:=hW;have hA:DataW.TrodAll enc Tryz.prog W 0 (fun _=>true) true [22,30,30,32,3,3] args.toList ds p:=hA0;obtain⟨rfl,rfl⟩:=trodVars_none hV;obtain⟨v0,vs1,d0,ds1,p0,q1,hargs,rfl,rfl,h0,hA1⟩:=trodAll_cons hA;obtain⟨v1,vs2,d1,ds2,p1,q2,rfl,rfl,rfl,h1,hA2⟩:=trodAll_cons hA1;obtain⟨v2,vs3,d2,ds3,p2,q3,rfl,rfl,rfl,h2,hA3⟩:=trodAll_cons hA2;obtain⟨v3,vs4,d3,ds4,p3,q4,rfl,rfl,rfl,h3,hA4⟩:=trodAll_cons hA3;obtain⟨v4,vs5,d4,ds5,p4,q5,rfl,rfl,rfl,h4,hA5⟩:=trodAll_cons hA4;obtain⟨v5,vs6,d5,ds6,p5,q6,rfl,rfl,rfl,h5,hA6⟩:=trodAll_cons hA5;obtain⟨rfl,rfl,rfl⟩:=trodAll_nil hA6;obtain rfl:args= #[v0,v1,v2,v3,v4,v5]:=by cases args;simp_all
 obtain⟨keep0,x0,hv0,w0⟩:=Ya1 (show Tryz.prog.underlying 22=some (.slice 3) from ew) ew ew h0 (hval0 0 22 v0 rfl rfl);obtain⟨keep1,x1,hv1,w1⟩:=WH MW h1 (hval0 1 30 v1 rfl rfl);obtain⟨keep2,x2,hv2,w2⟩:=WH MW h2 (hval0 2 30 v2 rfl rfl);obtain⟨keep3,x3,hv3⟩:=Yh7 VS h3 (hval0 3 32 v3 rfl rfl);obtain⟨keep4,x4,hv4,w4⟩:=Zx (show Tryz.prog.underlying 3=some (.int .i64) from ew) h4 (hval0 4 3 v4 rfl rfl);obtain⟨keep5,x5,hv5,w5⟩:=Zx (show Tryz.prog.underlying 3=some (.int .i64) from ew) h5 (hval0 5 3 v5 rfl rfl);refine(Zvl (Zpn x0 x1 x2 x3 x4 x5 w1) (Ye3 hL) (vs:=[v0,v1,v2,v3,v4,v5]) rfl ?_).mono fun e W' ⟨he,hold,hos,hout⟩=> ?_
 .intro i v c hv hc
  match i with
  |0=>simp at hv hc;subst hv;subst hc;exact hv0
  |1=>simp at hv hc;subst hv;subst hc;exact hv1
  |2=>simp at hv hc;subst hv;subst hc;exact hv2
  |3=>simp at hv hc;subst hv;subst hc;exact hv3
  |4=>simp at hv hc;subst hv;subst hc;exact hv4
  |5=>simp at hv hc;subst hv;subst hc;exact hv5
  |i+6=>simp at hv
 subst he;refine⟨_,rfl,_,_,_,[],(p0++(p1++(p2++(p3++(p4++(p5++[])))))),[],hW',?_,?_,?_,Zo9 hold hos hout _,fun h=>eE⟩
 .exact trodAll_mk1 (shut_bool (show Tryz.prog.underlying 4=some .bool from ew) true)
 .have hb:∀b,b<W.heap.size->(fun b:Nat=>decide (b<W.heap.size)) b=true:=fun b hb=>by simpa using hb
  exact(trodAll_cons_mk (keep0 W' _ hold hb) (trodAll_cons_mk (keep1 W' _ hold hb) (trodAll_cons_mk (keep2 W' _ hold hb) (trodAll_cons_mk (keep3 W' _ hold hb) (trodAll_cons_mk (keep4 W' _ hold hb) (trodAll_cons_mk (keep5 W' _ hold hb) trodAll_mk0))))))
 .rfl
theorem proofDoes_holds:Rows.ProofDoesSaid:=
 OpenClaim.holds_of_wide 3 Tryz.f3 rfl rfl rfl rfl rfl rfl rfl ⟨rfl,rfl,rfl,rfl,rfl⟩ rfl rfl rfl rfl rfl ew Tryz.func3 ew
  (of_decide_eq_true ew) (by unfold Func.isWrapper;rw[if_neg (of_decide_eq_false ew)];exact⟨rfl,rfl⟩)
  (fun os started H enc _=>proofDoes_lifted os started H enc)
theorem proofDoes_card:Rows.ProofDoesCardSaid:=
 Claim7.holds_tied_plain_at .later [] [.data,.data] true (true,"9b0537ee62ad3ca227062e0433ee697db82a58d933221118990918afaac29c54") false
  proofDoes_holds (fun _ h=>eE) ew (fun _ h=>eE) proofDoes_row_tie rfl ⟨rfl,rfl⟩ ew rfl
  (fun f fn hf hfn=>by
   obtain rfl:f=3:=aW ((show Tryz.prog.funcNamed "proofprograms/proofprogramslaw10.ProofDoes" =some 3 from ew).symm.trans hf)|>.symm;obtain rfl:fn=Tryz.f3:=(aW (Tryz.func3.symm.trans hfn)).symm;exact⟨ew,fun j t ht=>by
    rw[Tryz.params3] at ht;rcases j with _|_|_|_|_|_|j
    .obtain rfl:22=t:=gv
     exact(show Tryz.prog.wantsStandIn 22=false from ew)
    .obtain rfl:30=t:=gv
     exact(show Tryz.prog.wantsStandIn 30=false from ew)
    .obtain rfl:30=t:=gv
     exact(show Tryz.prog.wantsStandIn 30=false from ew)
    .obtain rfl:32=t:=gv
     exact(show Tryz.prog.wantsStandIn 32=false from ew)
    .obtain rfl:3=t:=gv
     exact(show Tryz.prog.wantsStandIn 3=false from ew)
    .obtain rfl:3=t:=gv
     exact(show Tryz.prog.wantsStandIn 3=false from ew)
    .simp at ht⟩)
  ew
#print axioms proofDoes_card
end Go.Proofs.YtgjekifepogehaaGreatDoor
