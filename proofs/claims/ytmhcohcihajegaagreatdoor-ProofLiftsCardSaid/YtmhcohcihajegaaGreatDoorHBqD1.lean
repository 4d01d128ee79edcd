/- A part of this seat's proofs. No conditions. -/
import Derived.Test.YtmhcohcihajegaaGreatDoorHD1
namespace Go.Ab
set_option linter.all false
def Zbz(l:List (Tm×Int)):List (Int×Int):=l.flatMap fun q=>q.1.vars q.2
theorem Zgt(l l':List (Tm×Int)):Zbz (l++l')=Zbz l++Zbz l':=by simp[Zbz]
end Go.Ab
