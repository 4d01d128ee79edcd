/- A part of this seat's proofs. No conditions. -/
import Derived.Test.YtmhcohcihajegaaGreatDoorHBqA1
import Derived.Test.YtmhcohcihajegaaGreatDoorHBqD1
import Derived.Test.YtmhcohcihajegaaGreatDoorHDT1
import Derived.Test.YtmhcohcihajegaaGreatDoorHS2
namespace Go.Ab
open Go Go.Proofs
set_option maxRecDepth 100000
set_option maxHeartbeats 4000000
set_option linter.all false
theorem Zo1:∀l:List (Tm×Int),fre (Zbz l)=l.flatMap fun p=>fre (p.1.vars p.2)
 |[]=>rfl
 |p::l=>by
  have e:Zbz (p::l)=p.1.vars p.2++Zbz l:=by simp[Zbz]
  rw[e,Zdg,Zo1 l,List.flatMap_cons]
end Go.Ab
