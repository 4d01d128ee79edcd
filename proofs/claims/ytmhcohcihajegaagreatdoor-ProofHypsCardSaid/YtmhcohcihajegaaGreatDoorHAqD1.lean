/- A part of this seat's proofs. No conditions. -/
import Derived.Test.YtmhcohcihajegaaGreatDoorHD1
namespace Go.Ab
set_option linter.all false
theorem Yio{t:Tm}(h:t.err=0)(hn:t.near=true):∀p∈t.vars 0,0<=p.1/\p.1<549755813888:=fun p hp=>
 ⟨t.vars_nonneg (ut h).1 0 p hp,by have:=List.all_eq_true.1 hn p hp;grind⟩
end Go.Ab
