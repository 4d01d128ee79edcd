/- A part of the proofs of this seat's statements: D27. It has no conditions of its own. -/
import Derived.Test.YthlkampfjlkniaaGreatDoorXA1
import Derived.Test.YthlkampfjlkniaaGreatDoorD1
namespace Go.Ab
set_option linter.all false
theorem tms_re(G:Int→Tm→Tm)(f:Fm):∀b,(f.re G b).tms b=(f.tms b).map fun p=>(G p.2 p.1,p.2):=by
 induction f using Fm.ind with
 |h f ih=>
  intro b
  rw[Fm.re_eq,Fm.tms_eq,Fm.tms_eq]
  simp only[Fm.kind_mk,Fm.terms_mk,Fm.args_mk,List.map_append,List.map_map,List.map_flatMap,List.flatMap_map]
  congr 1
  have:∀l:List Fm,(∀x∈l,x∈f.args)→l.flatMap (fun x=>(x.re G (upF f.kind b)).tms (upF f.kind b))=l.flatMap fun x=>(x.tms (upF f.kind b)).map fun p=>(G p.2 p.1,p.2):=by
   intro l
   induction l with
   |nil=>intro _;rfl
   |cons x l ihl=>
    intro h
    rw[List.flatMap_cons,List.flatMap_cons,ihl fun y hy=>h y (by simp[hy]),ih x (h x (by simp))]
  exact this f.args fun _ h=>h
end Go.Ab
