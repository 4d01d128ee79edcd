/- A part of the proofs of this seat's statements: D25, D27. It has no conditions of its own. -/
import Derived.Test.YtafjchcccnpjmaaGreatDoorYA1
import Derived.Test.YtafjchcccnpjmaaGreatDoorD1
namespace Go.Ab
set_option linter.all false
theorem lift_lift(t:Tm)(a b:Int)(ha:0≤a):(t.re (liftG 0 a) 0).re (liftG 0 b) 0=t.re (liftG 0 (a+b)) 0:=by
 rw[re_re]
 refine re_congr t 0 fun p hp=> ?_
 simp only[liftG_eq,re_vT]
 congr 1
 by_cases h:p.1-p.2≥0
 ·rw [if_pos h,if_pos (by omega),if_pos h];omega
 ·rw [if_neg h,if_neg h,if_neg h]
theorem fokT_near{f:Fm}{g:List Ty}(h:f.okT g)(he:f.err=0)(hg:g.length≤1000):f.near=true∧f.nearE=true:=by
 have h1:=(Fm.err_iff f).1 he
 refine⟨List.all_eq_true.2 fun q hq=>List.all_eq_true.2 fun v hv=> ?_,List.all_eq_true.2 fun q hq=>List.all_eq_true.2 fun v hv=> ?_⟩
 ·have:=fokT_vars h h1.1 q hq v hv;simp;omega
 ·have:=fokT_vars h h1.1 q hq v hv;simp;omega
end Go.Ab
