/- A part of the proofs of this seat. No conditions. -/
import Derived.Test.YtpnbmjgblakifaaGreatDoorA2
namespace Go.Ab
open Go
set_option linter.all false
section
variable {H:Type} {enc:TypeId×Value->H} {P:Program} {W:World}
theorem Yfa{t:TypeId}{r:Reach}{base:Nat}{k:IntKind}{v:Value}(ht:P.underlying t=some (.int k))(h:Value.okWide P W r base t v):v.cells.toList=[v]:=by
 cases v<;>simp[Value.okWide,ht,Cell.okWide,Cell.ok] at h<;>rfl
theorem Yk0{i:Int}(h:(Lit.int .u8 i).wf=true):0<=i/\i<256:=by
 have:=(Lit.wf_int_iff .u8 i).1 h;simp[IntKind.min,IntKind.max,IntKind.signed,IntKind.bits] at this;omega
theorem Ydu{t:TypeId}{v:Value}{d:DataW H}{ps:List MemPlace}{r:Reach}{base:Nat}{k:IntKind}(ht:P.underlying t=some (.int k))
 (h:DataW.Trod enc P W 0 (fun _=>true) true t v d ps) (hv:Value.okWide P W r base t v):Vb enc P W t v d ps/\∃i:Int,Is W v (.int k i)/\(Lit.int k i).wf=true:=by
 obtain⟨keep,vs,⟨l,rfl,hl⟩,hr⟩:=Tg h (XX ht);exact⟨keep,l,.data (Vk (Yfa ht hv) hr),hl⟩
end
end Go.Ab
