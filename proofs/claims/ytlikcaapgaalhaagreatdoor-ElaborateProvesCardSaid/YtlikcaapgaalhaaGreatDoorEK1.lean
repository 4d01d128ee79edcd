/- A part of this seat's proofs. No conditions. -/
import Derived.Handed
import Derived.JoinedOf
import Derived.LaidMore
import Derived.Lay
import Derived.OpenShut
import Derived.ProofKit
import Derived.SevenTiedAt
import Derived.Stop.Joined
import Derived.Test.YtlikcaapgaalhaaGreatDoorCards
import Derived.Test.YtlikcaapgaalhaaGreatDoorTie
import Derived.Test.YtlikcaapgaalhaaGreatDoorES1
namespace Go.Proofs.YtlikcaapgaalhaaGreatDoor
open Go Go.Ab Go.ChangeShapes Go.WideShapes Go.ChangeAt Go.RowKit
set_option maxRecDepth 100000
set_option linter.all false
theorem own:ownKnob Tryz.prog.godebug=none:=by kernel_rfl
abbrev theLaid:List (String×DataW Unit):=[("proofprograms/tree.arities",Rows.laid_proofprograms_tree_arities)]
def arInts:List Int:=[0,0,1,2,0,1,3,0,2,3,2,1,1,0]
theorem ar_cell{W:World}(h:laidMetH Tryz.prog theLaid W)(r:Nat)(hr:r<14):W.cell? ⟨0,r,none⟩=some (.int .i64 (arInts.getD r 0)):=by
 rw[MakeChecks.laidMetH_plain _ _ _ (by kernel_rfl)] at h
 obtain⟨ps,⟨g,t,cs,fuel,p,q,hg,ht,hv,hd,_,_⟩,_,_⟩:=h
 obtain rfl:=Option.some.inj ((show Tryz.prog.globalNamed "proofprograms/tree.arities" =some 0 by kernel_rfl).symm.trans hg)
 obtain rfl:=Option.some.inj ((show(Tryz.prog.globals[0]?).map (·.type)=some 221 by kernel_rfl).symm.trans ht)
 obtain⟨xs,m,_,ex,_,hl,hel⟩:=DataW.trod_array (show Tryz.prog.underlying 221=some (.array 14 3) by kernel_rfl) hd
 have c5:Tryz.prog.cellsOf 3=1:=by kernel_rfl
 have hE:=hel r hr
 rw[c5,Nat.mul_one,List.getElem?_eq_getElem (by omega)] at hE
 obtain⟨z,e1,e2,_⟩:=DataW.trod_int (show Tryz.prog.underlying 3=some (.int .i64) by kernel_rfl) hE
 have hlen:arInts.length=14:=rfl
 have e3:(xs.map (·.1))=arInts.map fun n=> .lit (.int .i64 n):=(DataW.agg.inj (Prod.mk.inj ex).1).symm
 have e4:(xs.map (·.1))[r]? =(arInts.map fun n=>(DataW.lit (.int .i64 n):DataW Unit))[r]? :=by rw[e3]
 rw[List.getElem?_map,List.getElem?_map,List.getElem?_eq_getElem (by omega:r<xs.length),List.getElem?_eq_getElem (by omega:r<arInts.length),e2] at e4
 have hz:z=arInts.getD r 0:=by
  simp only[Option.map_some,Option.some.injEq,DataW.lit.injEq,Lit.int.injEq,true_and] at e4
  rw[e4,List.getD,List.getElem?_eq_getElem (by omega:r<arInts.length)];rfl
 rw[World.var?_cell hg hv r,←hz]
 have:cs.toList[r]? =some (.int .i64 z):=by
  have h0:((cs.toList.drop r).take 1)[0]? =some (.int .i64 z):=by rw[e1];rfl
  simpa using h0
 simpa using this
theorem ar_glob{W:World}(h:laidMetH Tryz.prog theLaid W):∀p∈Go.Ab.E.G,∀(j:Nat) c,p.2[j]? =some c→∃v,W.cell? ⟨p.1,j,none⟩=some v∧DRel (allM W) W v c:=by
 intro p hp j c hc
 have hp':p=(0,arV):=by simpa [Go.Ab.E] using hp
 subst hp'
 have hj:j<14:=by
  have:=(List.getElem?_eq_some_iff.1 hc).1
  simpa [arV] using this
 refine⟨_,ar_cell h j hj,?_⟩
 have e:arV[j]? =some (.int .i64 (arInts.getD j 0)):=by
  have:arV=arInts.map V.i:=rfl
  rw[this,List.getElem?_map,List.getD_eq_getElem?_getD,List.getElem?_eq_getElem (by simpa [arInts] using hj)]
  rfl
 rw[e] at hc
 cases hc
 exact .int _ _
end Go.Proofs.YtlikcaapgaalhaaGreatDoor
