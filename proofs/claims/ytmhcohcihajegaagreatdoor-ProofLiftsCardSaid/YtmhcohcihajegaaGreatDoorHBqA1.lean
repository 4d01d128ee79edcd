/- A part of this seat's proofs. No conditions. -/
import Derived.Test.YtmhcohcihajegaaGreatDoorHA2
namespace Go.Ab
open Go
set_option linter.all false
section
variable {E:Env} {N k:Nat} {a:AF} {σ:Sto} {Q:Exit->AF->Sto->Prop} {ops:List Oper} {dr:Bool} {rest:List Oper} {acc:List Rec}
variable {d:Option Tmp} {ty:TypeId} {ps:String} {af:Array Edge} {gd:Option (Nat×Bool)}
abbrev rh7:List (Option Nat):=[some 0,some 1,some 2,some 3,some 4,some 5,some 6]
end
end Go.Ab
namespace Go.Ab
open Go
set_option linter.unusedSimpArgs false
set_option linter.unusedVariables false
section
variable {E:Env} {N k:Nat} {ops:List Oper}
theorem Plan.app{X:Oper->Prop}{l1 l2:List Oper}{a:AF}{σ:Sto}{R1:List Rec}{a1:AF}{σ1:Sto}(h:Plan E N X ops l1 a σ R1 a1 σ1):∀{R2:List Rec} {a2:AF} {σ2:Sto},Plan E N X ops l2 a1 σ1 R2 a2 σ2->Plan E N X ops (l1++l2) a σ (R1++R2) a2 σ2:=by
 induction h with
 |nil=>simp
 |run r hw h hp hd _ ih=>intro _ _ _ h2;exact .run r hw h hp hd (ih h2)
 |sk hw hd _ ih=>intro _ _ _ h2;exact .sk hw hd (ih h2)
variable {X:Oper->Prop} {rest:List Oper} {a a':AF} {σ σ':Sto} {rs:List Rec} {d:Option Tmp} {ty:TypeId} {ps:String} {af:Array Edge} {gd:Option (Nat×Bool)}
end
end Go.Ab
namespace Go.Ab
open Go
set_option linter.all false
section
variable {H:Type} {enc:TypeId×Value->H} {P:Program} {W:World}
theorem Yh1{t:TypeId}{r:Reach}{base:Nat}{k:IntKind}{v:Value}(ht:P.underlying t=some (.int k))(h:Value.okWide P W r base t v):v.cells.toList=[v]:=by
 cases v<;>simp[Value.okWide,ht,Cell.okWide,Cell.ok] at h<;>rfl
theorem Ymq{i:Int}(h:(Lit.int .u8 i).wf=true):0<=i/\i<256:=by
 have:=(Lit.wf_int_iff .u8 i).1 h;simp[IntKind.min,IntKind.max,IntKind.signed,IntKind.bits] at this;omega
theorem Yg9{t:TypeId}{v:Value}{d:DataW H}{ps:List MemPlace}{r:Reach}{base:Nat}{k:IntKind}(ht:P.underlying t=some (.int k))
 (h:DataW.Trod enc P W 0 (fun _=>true) true t v d ps) (hv:Value.okWide P W r base t v):Zsr enc P W t v d ps/\∃i:Int,Is W v (.int k i)/\(Lit.int k i).wf=true:=by
 obtain⟨keep,vs,⟨l,rfl,hl⟩,hr⟩:=Yew h (Zth ht);exact⟨keep,l,.data (Zz5 (Yh1 ht hv) hr),hl⟩
end
end Go.Ab
