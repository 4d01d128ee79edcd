/- A part of the proofs of this seat. No conditions. -/
import Derived.Test.YtpnbmjgblakifaaGreatDoorDT1
namespace Go.Ab
open Go
set_option linter.all false
theorem OV{C i:Int}(h:0<=i/\i<C):(xo i).hx C:=by simpa[xo,Pf.hx] using h
end Go.Ab
