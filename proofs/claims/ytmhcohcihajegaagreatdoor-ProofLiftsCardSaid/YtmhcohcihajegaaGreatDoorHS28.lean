/- A part of this seat's proofs. No conditions. -/
import Derived.Test.YtmhcohcihajegaaGreatDoorHAT1
import Derived.Test.YtmhcohcihajegaaGreatDoorHS2
namespace Go.Ab
open Go Go.Proofs Go.RowKit
set_option linter.all false
set_option maxRecDepth 100000
theorem Ya6(m:Nat):AnyZI.SortsIn E.P Tryz.sortedA_ren Fence.wide m:=
 ⟨fun blk off cap ss W hH hblk hsz=>callsIn_wide.2 (AnyM.slices_Sort_int Tryz.sortA blk off cap ss W hH hblk hsz),fun p cap W=>callsIn_wide.2 (AnyM.slices_Sort_int_none Tryz.sortA p cap W)⟩
theorem Zu1{σ:Sto}{n:Nat}(h:n<σ.nx):AC E 176 [.mp n] σ (.fn (.func 215) [] [.ptr σ.nx 0]) ⟨σ.nx+1,(σ.nx,.var [.mp n])::σ.es⟩:=
 AC.mapKeys (E:=E) (ρ7:=Tryz.keysB_ren) Tryz.keysB (enters_of Tryz.func176 (by kernel_rfl) rfl) h
theorem Zwk{σ:Sto}{n b:Nat}{c:EC}{ks:List Int}{xs:List c.sem}(hb:zm σ.es b=some (.var [.mp n]))(hn:zm σ.es n=some (.map c ks xs))
 (hnd:ks.Nodup) (hwf:∀x∈ks,(Lit.int .i64 x).wf=true) (hmax:ks.length<549755813888):
 AC E 175 [.fn (.func 215) [] [.ptr b 0]] σ (.s .int (yq ks)) σ:=
 AC.sortedKeys (E:=E) (ρ7:=Tryz.keysB_ren) (ρ6:=Tryz.sortedA_ren) Tryz.keysB Tryz.sortedA Ya6 (enters_of Tryz.func175 (by kernel_rfl) rfl) (enters_of Tryz.func214 (by kernel_rfl) rfl)
  (enters_of Tryz.func215 (by kernel_rfl) rfl) (by kernel_rfl) hb hn hnd hwf (Nat.le_trans (Nat.le_of_lt hmax) (by decide)) (by omega)
end Go.Ab
