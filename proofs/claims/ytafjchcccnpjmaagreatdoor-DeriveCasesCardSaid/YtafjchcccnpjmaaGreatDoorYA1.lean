/- A part of the proofs of this seat's statements: B35. It has no conditions of its own. -/
import Derived.Test.YtafjchcccnpjmaaGreatDoorA2
namespace Go.Ab
open Go
set_option linter.all false
section
variable {E:Env} {N k:Nat} {a:AF} {σ:Sto} {Q:Exit→AF→Sto→Prop} {ops:List Oper} {dr:Bool} {rest:List Oper} {acc:List Rec}
variable {d:Option Tmp} {ty:TypeId} {ps:String} {af:Array Edge} {gd:Option (Nat×Bool)}
theorem M.ix{t:TypeId}{x y:Operand}{z:Nat}{zr:List V}{c:Option EC}{sz bytes:Nat}{sp:Sp}{l:SL V}{n:Int}{cs:List V}{kd:IntKind}(h2:AX E N k dr ops rest (a.put d (.addr cs)) σ (⟨[],.addr cs,0,[]⟩::acc) Q)(hw:wantG ops a gd=some true:=by exact rfl)(hx:ev E t a x=some (.slice sp l):=by exact rfl)(ht:E.ti t=some ⟨z,zr,.slc c sz bytes⟩:=by exact rfl)(hy:ev E 0 a y=some (.int kd n):=by exact rfl)(hn:n=0:=by exact rfl)(hlt:0<l.len:=by exact Nat.le_of_ble_eq_true rfl)(hk:l.get 0=some cs:=by exact rfl)(hsz:Nat.beq l.cells sz=true:=by exact rfl)(hd:dstOk N d=true:=by exact rfl):
 AX E N k dr ops (⟨d,.indexAddr t x y,ty,ps,af,gd⟩::rest) a σ acc Q:=L.ix 0 hw hx ht hy hn hlt hk hsz hd h2
end
end Go.Ab
