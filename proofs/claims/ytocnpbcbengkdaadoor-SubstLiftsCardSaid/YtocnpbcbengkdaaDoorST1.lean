/- A part of the proofs of this seat's statements: Y0, Y1, S69, S70, S72. It has no conditions of its own. -/
import Derived.Shelf.SlIterI.Sorted
import Derived.Shelf.SlIterI.Keys
import Derived.Shelf.SortM.Plain
import Derived.Shelf.SortM.SortNone
import Derived.Test.YtocnpbcbengkdaaDoorRows
import Derived.Test.YtocnpbcbengkdaaDoorS1
import Derived.Test.YtocnpbcbengkdaaDoorAT1
import Derived.Test.YtocnpbcbengkdaaDoorDT1
/-
  DERIVED: THE SHELF's CONTRACTS AT THIS DUMP, IN PLAIN WORDS (tools/lay-plain.mjs out of 'YL.lean', which tools/lay-shelf.mjs wrote): THE SAME DECLARATIONS UNDER THE SAME NAMES: 'import', 'namespace', 'open', 'def', 'theorem' AND NOTHING ELSE: no command of the shelf's: FOR A HAND-IN. Each laying: the table of numbers ('.._ren') and one theorem, a field a fact of the dump's own or the kernel's comparison; each contract: ONE APPLICATION.
-/
namespace Go.Proofs
open Go.Shelf
def Tryd.keysA_ren : Go.Shelf.Ren := ⟨fun | 7 => 75 | 10 => 105 | n => n, fun | 23 => 56 | 26 => 3 | 3 => 4 | 28 => 95 | 0 => 0 | 27 => 94 | 33 => 88 | 4 => 4 | n => n, fun | n => n⟩
theorem Tryd.keysA : Go.Proofs.SlLaysZI.n7 Tryd.prog Tryd.keysA_ren := {
  mixed := by kernel_rfl
  f7 := ⟨Tryd.f75.name, by decide, Tryd.func75.trans (congrArg some (by kernel_rfl))⟩
  f10 := ⟨Tryd.f105.name, by decide, Tryd.func105.trans (congrArg some (by kernel_rfl))⟩
  t0 := Tryd.underlying0
  a0 := Tryd.isAgg0
  z0 := Tryd.sizeOf0
  v0 := Tryd.zeroValue0
  t4 := Tryd.underlying4
  a4 := Tryd.isAgg4
  z4 := Tryd.sizeOf4
  v4 := Tryd.zeroValue4
  t23 := Tryd.underlying56
  a23 := Tryd.isAgg56
  z23 := Tryd.sizeOf56
  v23 := Tryd.zeroValue56
  t26 := Tryd.underlying3
  a26 := Tryd.isAgg3
  z26 := Tryd.sizeOf3
  v26 := Tryd.zeroValue3
  t27 := Tryd.underlying94
  a27 := Tryd.isAgg94
  z27 := Tryd.sizeOf94
  v27 := Tryd.zeroValue94
  t28 := Tryd.underlying95
  a28 := Tryd.isAgg95
  z28 := Tryd.sizeOf95
  v28 := Tryd.zeroValue95
  t33 := Tryd.underlying88
  a33 := Tryd.isAgg88
  z33 := Tryd.sizeOf88
  v33 := Tryd.zeroValue88 }
def Tryd.sortedA_ren : Go.Shelf.Ren := ⟨fun | 6 => 74 | 8 => 103 | 9 => 104 | 11 => 119 | 13 => 121 | 12 => 120 | 23 => 134 | 24 => 135 | 14 => 125 | 15 => 126 | 16 => 127 | 17 => 128 | 18 => 129 | 19 => 130 | 20 => 131 | 21 => 132 | 22 => 133 | 25 => 136 | 26 => 137 | 27 => 138 | 28 => 139 | 29 => 140 | 30 => 141 | 31 => 142 | n => n, fun | 26 => 3 | 28 => 95 | 24 => 22 | 0 => 0 | 3 => 3 | 37 => 126 | 48 => 138 | 50 => 140 | 4 => 4 | 40 => 131 | 39 => 130 | 45 => 101 | 5 => 5 | 9 => 9 | 51 => 141 | 55 => 145 | 57 => 147 | 58 => 148 | 33 => 88 | n => n, fun | n => n⟩
theorem Tryd.sortedA : Go.Proofs.SlLaysZI.n6 Tryd.prog Tryd.sortedA_ren := {
  mixed := by kernel_rfl
  f6 := ⟨Tryd.f74.name, by decide, Tryd.func74.trans (congrArg some (by kernel_rfl))⟩
  f8 := ⟨Tryd.f103.name, by decide, Tryd.func103.trans (congrArg some (by kernel_rfl))⟩
  f11 := ⟨Tryd.f119.name, by decide, Tryd.func119.trans (congrArg some (by kernel_rfl))⟩
  t0 := Tryd.underlying0
  a0 := Tryd.isAgg0
  z0 := Tryd.sizeOf0
  v0 := Tryd.zeroValue0
  t24 := Tryd.underlying22
  a24 := Tryd.isAgg22
  z24 := Tryd.sizeOf22
  v24 := Tryd.zeroValue22
  t26 := Tryd.underlying3
  a26 := Tryd.isAgg3
  z26 := Tryd.sizeOf3
  v26 := Tryd.zeroValue3
  t28 := Tryd.underlying95
  a28 := Tryd.isAgg95
  z28 := Tryd.sizeOf95
  v28 := Tryd.zeroValue95
  i26 := by kernel_rfl }
def Tryd.sortA_ren : Go.Shelf.Ren := ⟨fun | 5 => 104 | 8 => 121 | 7 => 120 | 19 => 134 | 20 => 135 | 10 => 125 | 11 => 126 | 12 => 127 | 13 => 128 | 14 => 129 | 15 => 130 | 16 => 131 | 17 => 132 | 18 => 133 | 30 => 136 | 31 => 137 | 32 => 138 | 33 => 139 | 34 => 140 | 35 => 141 | 40 => 142 | n => n, fun | 23 => 22 | 25 => 3 | 3 => 3 | 32 => 126 | 22 => 22 | 0 => 0 | 44 => 138 | 46 => 140 | 4 => 4 | 36 => 131 | 35 => 130 | 41 => 101 | 5 => 5 | 9 => 9 | 53 => 141 | 57 => 145 | 63 => 147 | 64 => 148 | n => n, fun | n => n⟩
theorem Tryd.sortA : Go.Proofs.SlLaysM.n5 Tryd.prog Tryd.sortA_ren := {
  mixed := by kernel_rfl
  f5 := ⟨Tryd.f104.name, by decide, Tryd.func104.trans (congrArg some (by kernel_rfl))⟩
  f7 := ⟨Tryd.f120.name, by decide, Tryd.func120.trans (congrArg some (by kernel_rfl))⟩
  f8 := Tryd.func121.trans (congrArg some (by kernel_rfl))
  f10 := ⟨Tryd.f125.name, by decide, Tryd.func125.trans (congrArg some (by kernel_rfl))⟩
  f11 := ⟨Tryd.f126.name, by decide, Tryd.func126.trans (congrArg some (by kernel_rfl))⟩
  f12 := ⟨Tryd.f127.name, by decide, Tryd.func127.trans (congrArg some (by kernel_rfl))⟩
  f13 := ⟨Tryd.f128.name, by decide, Tryd.func128.trans (congrArg some (by kernel_rfl))⟩
  f14 := ⟨Tryd.f129.name, by decide, Tryd.func129.trans (congrArg some (by kernel_rfl))⟩
  f15 := ⟨Tryd.f130.name, by decide, Tryd.func130.trans (congrArg some (by kernel_rfl))⟩
  f16 := ⟨Tryd.f131.name, by decide, Tryd.func131.trans (congrArg some (by kernel_rfl))⟩
  f17 := ⟨Tryd.f132.name, by decide, Tryd.func132.trans (congrArg some (by kernel_rfl))⟩
  f18 := ⟨Tryd.f133.name, by decide, Tryd.func133.trans (congrArg some (by kernel_rfl))⟩
  f19 := Tryd.func134.trans (congrArg some (by kernel_rfl))
  f20 := Tryd.func135.trans (congrArg some (by kernel_rfl))
  f30 := ⟨Tryd.f136.name, by decide, Tryd.func136.trans (congrArg some (by kernel_rfl))⟩
  f31 := Tryd.func137.trans (congrArg some (by kernel_rfl))
  f32 := Tryd.func138.trans (congrArg some (by kernel_rfl))
  f33 := ⟨Tryd.f139.name, by decide, Tryd.func139.trans (congrArg some (by kernel_rfl))⟩
  f34 := ⟨Tryd.f140.name, by decide, Tryd.func140.trans (congrArg some (by kernel_rfl))⟩
  f35 := ⟨Tryd.f141.name, by decide, Tryd.func141.trans (congrArg some (by kernel_rfl))⟩
  f40 := ⟨Tryd.f142.name, by decide, Tryd.func142.trans (congrArg some (by kernel_rfl))⟩
  t0 := Tryd.underlying0
  a0 := Tryd.isAgg0
  z0 := Tryd.sizeOf0
  v0 := Tryd.zeroValue0
  t3 := Tryd.underlying3
  a3 := Tryd.isAgg3
  z3 := Tryd.sizeOf3
  v3 := Tryd.zeroValue3
  t4 := Tryd.underlying4
  a4 := Tryd.isAgg4
  z4 := Tryd.sizeOf4
  v4 := Tryd.zeroValue4
  t5 := Tryd.underlying5
  a5 := Tryd.isAgg5
  z5 := Tryd.sizeOf5
  v5 := Tryd.zeroValue5
  t9 := Tryd.underlying9
  a9 := Tryd.isAgg9
  z9 := Tryd.sizeOf9
  v9 := Tryd.zeroValue9
  t22 := Tryd.underlying22
  a22 := Tryd.isAgg22
  z22 := Tryd.sizeOf22
  v22 := Tryd.zeroValue22
  t23 := Tryd.underlying22
  a23 := Tryd.isAgg22
  z23 := Tryd.sizeOf22
  v23 := Tryd.zeroValue22
  t25 := Tryd.underlying3
  a25 := Tryd.isAgg3
  z25 := Tryd.sizeOf3
  v25 := Tryd.zeroValue3
  t32 := Tryd.underlying126
  a32 := Tryd.isAgg126
  z32 := Tryd.sizeOf126
  v32 := Tryd.zeroValue126
  t35 := Tryd.underlying130
  a35 := Tryd.isAgg130
  z35 := Tryd.sizeOf130
  v35 := Tryd.zeroValue130
  t36 := Tryd.underlying131
  a36 := Tryd.isAgg131
  z36 := Tryd.sizeOf131
  v36 := Tryd.zeroValue131
  t41 := Tryd.underlying101
  a41 := Tryd.isAgg101
  z41 := Tryd.sizeOf101
  v41 := Tryd.zeroValue101
  t44 := Tryd.underlying138
  a44 := Tryd.isAgg138
  z44 := Tryd.sizeOf138
  v44 := Tryd.zeroValue138
  t46 := Tryd.underlying140
  a46 := Tryd.isAgg140
  z46 := Tryd.sizeOf140
  v46 := Tryd.zeroValue140
  t53 := Tryd.underlying141
  a53 := Tryd.isAgg141
  z53 := Tryd.sizeOf141
  v53 := Tryd.zeroValue141
  t57 := Tryd.underlying145
  a57 := Tryd.isAgg145
  z57 := Tryd.sizeOf145
  v57 := Tryd.zeroValue145
  t63 := Tryd.underlying147
  a63 := Tryd.isAgg147
  z63 := Tryd.sizeOf147
  v63 := Tryd.zeroValue147
  t64 := Tryd.underlying148
  a64 := Tryd.isAgg148
  z64 := Tryd.sizeOf148
  v64 := Tryd.zeroValue148 }
end Go.Proofs
namespace Go.Ab
open Go Go.Proofs Go.RowKit
set_option linter.all false
set_option maxRecDepth 100000
theorem sorts_in (m : Nat) : AnyZI.SortsIn E.P Tryd.sortedA_ren Fence.wide m :=
  ⟨fun blk off cap ss W hH hblk hsz => callsIn_wide.2 (AnyM.slices_Sort_int Tryd.sortA blk off cap ss W hH hblk hsz), fun p cap W => callsIn_wide.2 (AnyM.slices_Sort_int_none Tryd.sortA p cap W)⟩
theorem mapKeys_c {σ : Sto} {n : Nat} (h : n < σ.nx) : AC E 75 [.mp n] σ (.fn (.func 105) [] [.ptr σ.nx 0]) ⟨σ.nx + 1, (σ.nx, .var [.mp n]) :: σ.es⟩ :=
  AC.mapKeys (E := E) (ρ7 := Tryd.keysA_ren) Tryd.keysA (enters_of Tryd.func75 (by kernel_rfl) rfl) h
theorem sorted_c {σ : Sto} {n b : Nat} {c : EC} {ks : List Int} {xs : List c.sem} (hb : findE σ.es b = some (.var [.mp n])) (hn : findE σ.es n = some (.map c ks xs))
    (hnd : ks.Nodup) (hwf : ∀ x ∈ ks, (Lit.int .i64 x).wf = true) (hmax : ks.length < 549755813888) :
    AC E 74 [.fn (.func 105) [] [.ptr b 0]] σ (.s .int (sortI ks)) σ :=
  AC.sortedKeys (E := E) (ρ7 := Tryd.keysA_ren) (ρ6 := Tryd.sortedA_ren) Tryd.keysA Tryd.sortedA sorts_in (enters_of Tryd.func74 (by kernel_rfl) rfl) (enters_of Tryd.func104 (by kernel_rfl) rfl)
    (enters_of Tryd.func105 (by kernel_rfl) rfl) (by kernel_rfl) hb hn hnd hwf (Nat.le_trans (Nat.le_of_lt hmax) (by decide)) (by omega)
end Go.Ab
namespace Go.Ab
open Go Go.Proofs
set_option maxRecDepth 100000
set_option linter.all false
theorem usesCb (ks : List Int) (i bl : Int) (hi : 0 ≤ i ∧ i < 9223372036854775808) (hb : 0 ≤ bl ∧ bl < 1099511627776) : AC E 73 [.i i, .i bl, .ptr 0 0] ⟨2, [(0, .var [.mp 1]), (1, .map .bl ks (List.replicate ks.length true))]⟩ (.tup [])
    ⟨2, [(0, .var [.mp 1]), (1, .map .bl (nub ks (fre [(i, bl)])) (List.replicate (nub ks (fre [(i, bl)])).length true))]⟩ := by
  refine AC.mk Tryd.func73 rfl rfl rfl rfl rfl (Nat.le_of_ble_eq_true rfl) ?_
  repeat' (first | ((with_reducible refine D.nil ?_); refine AX.nilL ?_) | ((with_reducible refine D.load ?_); refine L.ldb U U U U U U ?_) | ((with_reducible refine D.move ?_); refine L.mv U U U ?_) | ((with_reducible refine D.bin ?_); first | refine L.sb U U U U (by omega) ?_ | refine L.bn U U U U U ?_) | ((with_reducible refine D.ax ?_); refine L.muB U U U U U U U U ?_) | ((with_reducible refine D.aw ?_); first | refine K.sq (AW.regL ?_) | refine AW.regL ?_ | refine AW.condS U (fun h => ?_) (fun h => ?_) | refine AW.skip ?_) | with_reducible refine K.tN ?_)
  · have h2 : bl ≤ i := by simpa using h
    (exact K.n2 [some 0, some 1] U U U U U (by (repeat' (first | exact trivial | refine And.intro ?_ ?_ | refine ⟨_, U, _, U, _, U, ?_⟩ | exact VLe.refl _ | refine ⟨_, U, _, _, U, ?_, ?_⟩ | (simp [Sto.upd, fre_one, nub_one, putCs_same, if_pos h2]; done))); done) U (by simp [tupV, V.wk, V.wks, constV, Ty.view, Tm.view, fre_one, nub_one, putCs_same, if_pos h2]))
  · have h2 : ¬ bl ≤ i := by simpa using h
    (exact K.n2 [some 0, some 1] U U U U U (by (repeat' (first | exact trivial | refine And.intro ?_ ?_ | refine ⟨_, U, _, U, _, U, ?_⟩ | exact VLe.refl _ | refine ⟨_, U, _, _, U, ?_, ?_⟩ | (simp [Sto.upd, fre_one, nub_nil, if_neg h2]; done))); done) U (by simp [tupV, V.wk, V.wks, constV, Ty.view, Tm.view, fre_one, nub_nil, if_neg h2]))
theorem usesEach1 : ∀ (n : Nat) (t : Tm) (ks : List Int) (bl : Int), t.full ≤ n → n < 1099511627776 → 0 ≤ bl → bl + n < 1099511627776 → (∀ p ∈ t.vars bl, 0 ≤ p.1 ∧ p.1 < 9223372036854775808) → AC E 102 [.agg t.view, .i bl, .ptr 0 0, .ptr 1 0] ⟨4, [(0, .var [.fn (.func 73) [] [.ptr 2 0]]), (1, .var [.fn (.func 102) [] [.ptr 0 0, .ptr 1 0]]), (2, .var [.mp 3]), (3, .map .bl ks (List.replicate ks.length true))]⟩ (.tup [])
    ⟨4, [(0, .var [.fn (.func 73) [] [.ptr 2 0]]), (1, .var [.fn (.func 102) [] [.ptr 0 0, .ptr 1 0]]), (2, .var [.mp 3]), (3, .map .bl (nub ks (fre (t.vars bl))) (List.replicate (nub ks (fre (t.vars bl))).length true))]⟩ := by
  intro n
  induction n with
  | zero => intro t b bl h; have := t.full_pos; omega
  | succ n ih =>
  intro t ks bl hsz hb hbl hbn hix
  have hsz' := Tm.full_eq t
  have hlen := lsum_len Tm.full Tm.full_pos t.args
  have hv := Tm.vars_eq bl t
  have hi : t.kind = 1 → 0 ≤ t.index ∧ t.index < 9223372036854775808 := fun h => by simpa using hix (t.index, bl) (by rw [hv]; simp [h])
  have hcb : t.kind = 1 → _ := fun h => usesCb ks t.index bl (hi h) (by omega)
  refine AC.mk Tryd.func102 rfl rfl rfl rfl rfl (Nat.le_of_ble_eq_true rfl) ?_
  repeat' (first | ((with_reducible refine D.nil ?_); refine AX.nilL ?_) | ((with_reducible refine D.load ?_); refine L.ldb U U U U U U ?_) | ((with_reducible refine D.move ?_); refine L.mv U U U ?_) | ((with_reducible refine D.fieldAddr ?_); refine L.fab U U U U U ?_) | ((with_reducible refine D.assign ?_); refine L.asg U U U ?_) | ((with_reducible refine D.bin ?_); first | refine L.ad U U U U (by omega) ?_ | refine L.bn U U U U U ?_) | ((with_reducible refine D.call ?_); first | refine L.lnt U U U U ?_ | (apply L.cv2 (hcb (by simpa using h)) [2, 3] 0 rfl; rfl; rfl; rfl; rfl; rfl; rfl; rfl; (focus ((repeat' (first | exact trivial | refine And.intro ?_ ?_ | refine ⟨_, U, _, U, _, U, ?_⟩ | exact VLe.refl _ | refine ⟨_, U, _, _, U, ?_, ?_⟩ | with_reducible exact rfl)); done)); rfl; rfl; rfl; rfl)) | ((with_reducible refine D.box ?_); refine L.bx U U U U ?_) | ((with_reducible refine D.aw ?_); first | refine K.sq (AW.regL ?_) | refine K.sq (K.sq ?_) | refine AW.regL ?_ | refine AW.condS U (fun h => ?_) (fun h => ?_) | refine AW.skip ?_) | with_reducible refine K.tN ?_)
  all_goals
    have hup : up t.kind bl ≤ bl + 1 := by simp only [up]; split <;> omega
    have hup0 : 0 ≤ up t.kind bl := by simp only [up]; split <;> omega
    refine AW.range t.args.length (fun m => True)
      (fun m => ([(1, .i (up t.kind bl)), (3, .ptr 1 0), (22, .s .tm t.args), (23, .i t.args.length), (24, .i m)], ⟨5, [(0, .var [.fn (.func 73) [] [.ptr 2 0]]), (1, .var [.fn (.func 102) [] [.ptr 0 0, .ptr 1 0]]), (2, .var [.mp 3]), (3, .map .bl (nub ks (fre ((if t.kind = 1 then [(t.index, bl)] else []) ++ (t.args.take m).flatMap (Tm.vars (up t.kind bl))))) (List.replicate (nub ks (fre ((if t.kind = 1 then [(t.index, bl)] else []) ++ (t.args.take m).flatMap (Tm.vars (up t.kind bl))))).length true)), (4, .var t.view)]⟩))
      (by omega) (fun m => rfl) (fun m => rfl) rfl trivial ?_ ?_ ?_
    · simp_all only [beq_iff_eq, beq_eq_false_iff_ne, ne_eq]
      exact (Weak.mk [some 0, some 1, some 2, some 3, some 4] _ _ _ U U U U (by (repeat' (first | exact trivial | refine And.intro ?_ ?_ | refine ⟨_, U, _, U, ?_⟩ | exact VLe.refl _ | exact VLe.of_eq (by simp [Sto.upd, up, *, fre_app, fre_nil, nub_nil]))); done) (by (repeat' (first | exact trivial | refine And.intro ?_ ?_ | refine ⟨_, U, _, U, _, U, ?_⟩ | exact VLe.refl _ | refine ⟨_, U, _, _, U, ?_, ?_⟩ | (simp [Sto.upd, up, *, fre_app, fre_nil, nub_nil]; done))); done))
    · intro m hm hP
      have hs2 := lsum_mem Tm.full (List.getElem_mem hm)
      have hix' : ∀ p ∈ (t.args[m]).vars (up t.kind bl), 0 ≤ p.1 ∧ p.1 < 9223372036854775808 := fun p hp => hix p (by rw [hv]; exact List.mem_append_right _ (List.mem_flatMap.2 ⟨_, List.getElem_mem hm, hp⟩))
      have hc := ih t.args[m] (nub ks (fre ((if t.kind = 1 then [(t.index, bl)] else []) ++ (t.args.take m).flatMap (Tm.vars (up t.kind bl))))) (up t.kind bl) (by omega) (by omega) hup0 (by omega) hix'
      repeat' (first | ((with_reducible refine D.nil ?_); refine AX.nilL ?_) | ((with_reducible refine D.load ?_); first | refine L.ldb U U U U U U ?_ | refine L.lda U U U U U ?_) | ((with_reducible refine D.move ?_); refine L.mv U U U ?_) | ((with_reducible refine D.call ?_); (apply L.cv2 (hc) [0, 1, 2, 3] 0 rfl; rfl; rfl; rfl; rfl; rfl; rfl; rfl; (focus ((repeat' (first | exact trivial | refine And.intro ?_ ?_ | refine ⟨_, U, _, U, _, U, ?_⟩ | exact VLe.refl _ | refine ⟨_, U, _, _, U, ?_, ?_⟩ | with_reducible exact rfl)); done)); rfl; rfl; rfl; rfl)) | ((with_reducible refine D.alloc ?_); refine L.al U U U ?_) | ((with_reducible refine D.store ?_); refine L.st U U U U U U U U U ?_) | ((with_reducible refine D.indexAddr ?_); refine L.ixt _ U U U U U U U (by assumption) ?_) | ((with_reducible refine D.aw ?_); first | refine K.sq (AW.regL ?_) | refine AW.regL ?_) | with_reducible refine K.tN ?_ | with_reducible refine K.bN ?_)
      refine ⟨rfl, trivial, ?_⟩
      exact (Weak.mk [some 0, some 1, some 2, some 3, some 4] _ _ _ U U U U (by (repeat' (first | exact trivial | refine And.intro ?_ ?_ | refine ⟨_, U, _, U, ?_⟩ | exact VLe.refl _)); done) (by (repeat' (first | exact trivial | refine And.intro ?_ ?_ | refine ⟨_, U, _, U, _, U, ?_⟩ | exact VLe.refl _ | refine ⟨_, U, _, _, U, ?_, ?_⟩ | (simp [Sto.upd, fre_app, nub_app, flat_take _ _ _ hm, ← List.append_assoc]; done))); done))
    · intro hP
      skip
      (exact K.n2 [some 0, some 1, some 2, some 3] U U U U U (by (repeat' (first | exact trivial | refine And.intro ?_ ?_ | refine ⟨_, U, _, U, _, U, ?_⟩ | exact VLe.refl _ | refine ⟨_, U, _, _, U, ?_, ?_⟩ | (simp [Sto.upd, hv]; done))); done) U (by simp [tupV, V.wk, V.wks, constV, Ty.view, Tm.view, hv]))
theorem usesEach (t : Tm) (ht : t.full < 549755813888) (hix : ∀ p ∈ t.vars 0, 0 ≤ p.1 ∧ p.1 < 9223372036854775808) : AC E 72 [.agg t.view, .fn (.func 73) [] [.ptr 0 0]] ⟨2, [(0, .var [.mp 1]), (1, .map .bl [] [])]⟩ (.tup []) ⟨2, [(0, .var [.mp 1]), (1, .map .bl (useK t) (List.replicate (useK t).length true))]⟩ := by
  have hc := usesEach1 _ t [] 0 (Nat.le_refl _) (by omega) (by omega) (by omega) hix
  simp only [List.length_nil, List.replicate_zero] at hc
  refine AC.mk Tryd.func72 rfl rfl rfl rfl rfl (Nat.le_of_ble_eq_true rfl) ?_
  repeat' (first | ((with_reducible refine D.nil ?_); refine AX.nilL ?_) | ((with_reducible refine D.load ?_); refine L.ldb U U U U U U ?_) | ((with_reducible refine D.call ?_); (apply L.cv2 (hc) [3, 4, 0, 1] 0 rfl; rfl; rfl; rfl; rfl; rfl; rfl; rfl; (focus ((repeat' (first | exact trivial | refine And.intro ?_ ?_ | refine ⟨_, U, _, U, _, U, ?_⟩ | exact VLe.refl _ | refine ⟨_, U, _, _, U, ?_, ?_⟩ | with_reducible exact rfl)); done)); rfl; rfl; rfl; rfl)) | ((with_reducible refine D.box ?_); refine L.bx U U U U ?_) | ((with_reducible refine D.alloc ?_); refine L.al U U U ?_) | ((with_reducible refine D.store ?_); refine L.st U U U U U U U U U ?_) | ((with_reducible refine D.ax ?_); refine L.mf U U U U ?_) | ((with_reducible refine D.aw ?_); first | refine K.sq (AW.regL ?_) | refine AW.regL ?_) | with_reducible refine K.tN ?_)
  (exact K.n2 [some 0, some 1] U U U U U (by (repeat' (first | exact trivial | refine And.intro ?_ ?_ | refine ⟨_, U, _, U, _, U, ?_⟩ | exact VLe.refl _ | refine ⟨_, U, _, _, U, ?_, ?_⟩ | (simp [Sto.upd, useK]; done))); done) U (by simp [tupV, V.wk, V.wks, constV, Ty.view, Tm.view, useK]))
theorem useK_wf {t : Tm} (hix : ∀ p ∈ t.vars 0, 0 ≤ p.1 ∧ p.1 < 9223372036854775808) : ∀ x ∈ useK t, (Lit.int .i64 x).wf = true := fun x hx => by
  obtain ⟨h0, h1⟩ := mem_useK.1 hx
  obtain ⟨p, hp, rfl⟩ := mem_cnt.2 h1
  have h2 := hix p hp
  have h3 := vars_snd t 0 p hp
  have h4 : IntKind.i64.min ≤ p.1 - p.2 ∧ p.1 - p.2 ≤ IntKind.i64.max := by
    rw [show IntKind.i64.min = -9223372036854775808 by rfl, show IntKind.i64.max = 9223372036854775807 by rfl]; omega
  simpa [Lit.wf] using h4
theorem uses_c (t : Tm) (ht : t.full < 549755813888) (hix : t.err = 0 → ∀ p ∈ t.vars 0, 0 ≤ p.1 ∧ p.1 < 9223372036854775808) : PC E 30 [.agg t.view] (.tup [.s .int (if t.err = 0 then usesI t else []), .i t.err]) := by
  have h1 := check_c t (by omega)
  have hc : t.err = 0 → _ := fun h => usesEach t ht (hix h)
  have hk : AC E 75 [.mp 0] ⟨1, [(0, .map .bl (useK t) (List.replicate (useK t).length true))]⟩ (.fn (.func 105) [] [.ptr 1 0]) ⟨2, [(1, .var [.mp 0]), (0, .map .bl (useK t) (List.replicate (useK t).length true))]⟩ := mapKeys_c (Nat.lt_succ_self 0)
  have hlen := useK_len t
  have hsz := t.size_le_full
  have hs : t.err = 0 → AC E 74 [.fn (.func 105) [] [.ptr 0 0]] ⟨2, [(0, .var [.mp 1]), (1, .map .bl (useK t) (List.replicate (useK t).length true))]⟩ (.s .int (usesI t)) ⟨2, [(0, .var [.mp 1]), (1, .map .bl (useK t) (List.replicate (useK t).length true))]⟩ :=
    fun h => sorted_c (c := .bl) rfl rfl (useK_nodup t) (useK_wf (hix h)) (by omega)
  refine AC.mk Tryd.func30 rfl rfl rfl rfl rfl (Nat.le_of_ble_eq_true rfl) ?_
  repeat' (first | ((with_reducible refine D.nil ?_); refine AX.nilL ?_) | ((with_reducible refine D.load ?_); refine L.ldb U U U U U U ?_) | ((with_reducible refine D.move ?_); refine L.mv U U U ?_) | ((with_reducible refine D.assign ?_); refine L.asg U U U ?_) | ((with_reducible refine D.bin ?_); refine L.bn U U U U U ?_) | ((with_reducible refine D.call ?_); first | refine L.c2 (h1) U U U U ?_ | (apply L.cb2 (hc (by simpa using h)) [2, 1] 0 rfl; rfl; rfl; rfl; rfl; rfl; rfl; (focus ((repeat' (first | exact trivial | refine And.intro ?_ ?_ | refine ⟨_, U, _, U, _, U, ?_⟩ | exact VLe.refl _ | refine ⟨_, U, _, _, U, ?_, ?_⟩ | with_reducible exact rfl)); done)); rfl; rfl; rfl; rfl) | (apply L.cb2 (hk) [1] 1 rfl; rfl; rfl; rfl; rfl; rfl; rfl; (focus ((repeat' (first | exact trivial | refine And.intro ?_ ?_ | refine ⟨_, U, _, _, U, ?_, ?_⟩ | with_reducible exact rfl)); done)); rfl; rfl; rfl; rfl) | (apply L.cb2 (hs (by simpa using h)) [3, 1] 0 rfl; rfl; rfl; rfl; rfl; rfl; rfl; (focus ((repeat' (first | exact trivial | refine And.intro ?_ ?_ | refine ⟨_, U, _, U, _, U, ?_⟩ | exact VLe.refl _ | refine ⟨_, U, _, _, U, ?_, ?_⟩ | with_reducible exact rfl)); done)); rfl; rfl; rfl; rfl)) | ((with_reducible refine D.box ?_); refine L.bx U U U U ?_) | ((with_reducible refine D.alloc ?_); refine L.al U U U ?_) | ((with_reducible refine D.store ?_); refine L.st U U U U U U U U U ?_) | ((with_reducible refine D.ax ?_); first | refine L.mf U U U U ?_ | refine L.mmB U U U U U ?_) | ((with_reducible refine D.aw ?_); first | refine K.sq (AW.regL ?_) | refine K.sq (K.sq ?_) | refine AW.regL ?_ | refine AW.condS U (fun h => ?_) (fun h => ?_) | refine AW.skip ?_ | refine AW.ret ?_) | with_reducible refine K.tN ?_ | with_reducible refine K.tR ?_ | with_reducible refine K.r1 (by with_unfolding_all rfl) (by with_unfolding_all rfl) ?_)
  · have e : ¬ t.err = 0 := by simpa using h
    rw [if_neg e]; simp [tupV, V.wk, V.wks]; rfl
  · have e : t.err = 0 := by simpa using h
    rw [if_pos e]; simp [tupV, V.wk, V.wks, e]
end Go.Ab
namespace Go.Ab
open Go Go.Proofs
set_option maxRecDepth 100000
set_option linter.all false
theorem substLower_c (t : Tm) (a : Int) (ht : t.full < 274877906944) (hix : ∀ p ∈ t.vars 0, 0 ≤ p.1 ∧ p.1 < 549755813888) :
    PC E 33 [.agg t.view, .i a] (.tup [.agg (if lowerErr t a = 0 then t.re (putG a noTm) 0 else noTm).view, .i (lowerErr t a)]) := by
  have h1 := check_c t (by omega)
  have h2 := within_c a
  have h3 := count_c t a (by omega) fun p hp => by have := hix p hp; omega
  have h4 : (0 ≤ a ∧ a ≤ 4096) → _ := fun h => put_c t a noTm (by omega) (by simp [noTm, Tm.full, Tm.fulls, Ty.size, Ty.sizes]) (by simp [noTm, Tm.vars, Tm.varss]) ht hix
  have hc := cnt_le a (t.vars 0)
  have hv := t.vars_len 0
  have hz := t.size_le_full
  refine AC.mk Tryd.func33 rfl rfl rfl rfl rfl (Nat.le_of_ble_eq_true rfl) ?_
  repeat' (first | ((with_reducible refine D.nil ?_); refine AX.nilL ?_) | ((with_reducible refine D.load ?_); refine L.ldb U U U U U U ?_) | ((with_reducible refine D.move ?_); refine L.mv U U U ?_) | ((with_reducible refine D.assign ?_); refine L.asg U U U ?_) | ((with_reducible refine D.bin ?_); refine L.bn U U U U U ?_) | ((with_reducible refine D.call ?_); first | refine L.c2 (h1) U U U U ?_ | refine L.c2 (h2) U U U U ?_ | refine L.c2 (h3) U U U U ?_ | refine L.c2 (h4 (by simp_all)) U U U U ?_) | ((with_reducible refine D.box ?_); refine L.bx U U U U ?_) | ((with_reducible refine D.alloc ?_); refine L.al U U U ?_) | ((with_reducible refine D.store ?_); refine L.st U U U U U U U U U ?_) | ((with_reducible refine D.not ?_); refine L.nt U U U ?_) | ((with_reducible refine D.ax ?_); refine L.bd U U U U U ?_) | ((with_reducible refine D.aw ?_); first | refine K.sq (AW.regL ?_) | refine K.sq (K.sq ?_) | refine AW.regL ?_ | refine AW.condS U (fun h => ?_) (fun h => ?_) | refine AW.skip ?_ | refine AW.ret ?_) | with_reducible refine K.tN ?_ | with_reducible refine K.tR ?_ | with_reducible refine K.r1 (by with_unfolding_all rfl) (by with_unfolding_all rfl) ?_)
  · have e' : t.err ≠ 0 := by simpa using h
    have e : lowerErr t a = t.err := by simp only [lowerErr]; rw [if_pos e']
    simp [tupV, V.wk, V.wks, constV, Ty.view, Tm.view, e, noTm, e']
  · rename_i h0
    have e' : ¬ t.err ≠ 0 := by simpa using h0
    have e : lowerErr t a = 1 := by simp only [lowerErr]; rw [if_neg e', if_pos (by intro hc; simp [hc] at h)]
    simp [tupV, V.wk, V.wks, constV, Ty.view, Tm.view, e, noTm]
  · rename_i h0 h5
    have e' : ¬ t.err ≠ 0 := by simpa using h0
    have e2 : 0 ≤ a ∧ a ≤ 4096 := by simpa using h5
    have e : lowerErr t a = 6 := by simp only [lowerErr]; rw [if_neg e', if_neg (fun hc => hc e2), if_pos (by simpa using h)]
    simp [tupV, V.wk, V.wks, constV, Ty.view, Tm.view, e, noTm]
  · rename_i h0 h5
    have e' : ¬ t.err ≠ 0 := by simpa using h0
    have e2 : 0 ≤ a ∧ a ≤ 4096 := by simpa using h5
    have e : lowerErr t a = 0 := by simp only [lowerErr]; rw [if_neg e', if_neg (fun hc => hc e2), if_neg (by simpa using h)]
    simp [tupV, V.wk, V.wks, constV, Ty.view, Tm.view, e, noTm]
end Go.Ab
namespace Go.Ab
open Go Go.Proofs
set_option maxRecDepth 100000
set_option maxHeartbeats 4000000
set_option linter.all false
theorem mod5 {a : Int} (h : 0 ≤ a ∧ a < 256) : 0 ≤ a.tmod 5 ∧ a.tmod 5 < 5 := ⟨Int.tmod_nonneg 5 h.1, Int.tmod_lt_of_pos a (by decide)⟩
theorem substLifts_c (l : List Int) (a b c : Int) (ha : 0 ≤ a ∧ a < 256) (hb : 0 ≤ b ∧ b < 256) (hc : 0 ≤ c ∧ c < 256) : PC E 5 [.s .int l, .int .u8 a, .int .u8 b, .int .u8 c] (.bool true) := by
  by_cases hl : l.length ≤ 500
  case neg =>
    have hf := few_f l hl
    refine AC.mk Tryd.func5 rfl rfl rfl rfl rfl (Nat.le_of_ble_eq_true rfl) ?_
    repeat' (first | ((with_reducible refine D.nil ?_); refine AX.nilL ?_) | ((with_reducible refine D.move ?_); refine L.mv U U U ?_) | ((with_reducible refine D.assign ?_); refine L.asg U U U ?_) | ((with_reducible refine D.call ?_); first | refine L.c2 (sane03_c) U U U U ?_ | refine L.c2 (hf) U U U U ?_) | ((with_reducible refine D.not ?_); refine L.nt U U U ?_) | ((with_reducible refine D.aw ?_); first | refine K.sq (AW.regL ?_) | refine K.sq (K.sq ?_) | refine AW.regL ?_ | refine AW.condT U ?_ | refine AW.condF U ?_ | refine AW.skip ?_ | refine AW.ret ?_) | with_reducible refine K.tN ?_ | with_reducible refine K.tR ?_ | with_reducible refine K.r1 (by with_unfolding_all rfl) (by with_unfolding_all rfl) ?_)
    rfl
  have hf := few_t l hl
  have hn := new_c l
  have d0 := deck_ok hl
  have hcx := context_c (Dk.mk l 0) d0
  have hg := Dk.ctx_smalls (Dk.mk l 0)
  have hgl := Dk.ctx_len (Dk.mk l 0)
  have d1 := Dk.ctx_ok d0
  generalize (Dk.mk l 0).ctx.1 = g at *
  generalize (Dk.mk l 0).ctx.2 = D1 at *
  have ts := type1_c D1 d1
  have hs := Dk.type1 D1
  have d2 := Dk.type_ok 1 D1 d1
  generalize (D1.type 1).1 = s at *
  generalize (D1.type 1).2 = D2 at *
  have tx := term_c 5 (by omega) D2 g s 3 (by omega) d2 hg hs (by omega) (by omega) (by omega)
  have mx := Dk.tm_mk 5 D2 g s hg hs (by omega) (by omega)
  have fx := mx.full hg hs
  generalize (Dk.tm 5 D2 g s).1 = x at *
  generalize (Dk.tm 5 D2 g s).2 = D3 at *
  have xs := mx.shape hg hs
  have xe := mx.err hg hs (by omega)
  have xi : ∀ p ∈ x.vars 0, p.1 ≤ 5000 := fun p hp => by
    have h1 := mx.inf hg hs
    have h2 := (x.err_iff.1 xe).2
    have := vars_bound x g 0 5000 (by rw [h1]) xs (by omega) p hp
    omega
  have m1 := mod5 ha
  have m2 := mod5 hb
  have m3 := mod5 hc
  have xi1 : ∀ p ∈ x.vars 0, p.1 ≤ 1000000 := fun p hp => by have := xi p hp; omega
  have xn : ∀ p ∈ x.vars 0, 0 ≤ p.1 := x.vars_nonneg xs 0
  have cl1 := substLift_c x (a.tmod 5) 1 (by omega)
  rw [liftErr_no xe xi1 (by omega) (by omega), if_pos rfl] at cl1
  have e1 := lift_err xe (fr := a.tmod 5) (by_ := 1) (by omega)
  have i1 := lift_idx xs (fr := a.tmod 5) (by_ := 1) (by omega) xi
  have f1 := lift_full (a.tmod 5) 1 x 0 xs
  have cw := substLower_c (x.re (liftG (a.tmod 5) 1) 0) (a.tmod 5) (by omega) fun p hp => ⟨Tm.vars_nonneg _ (err_zero e1).1 0 p hp, by have := i1 p hp; omega⟩
  rw [lowerErr_lift xe (by omega), if_pos rfl, lower_lift xs] at cw
  generalize x.re (liftG (a.tmod 5) 1) 0 = x1 at *
  have cl2 := substLift_c x (a.tmod 5) (b.tmod 5) (by omega)
  rw [liftErr_no xe xi1 (by omega) (by omega), if_pos rfl] at cl2
  have e2 := lift_err xe (fr := a.tmod 5) (by_ := b.tmod 5) (by omega)
  have i2 := lift_idx xs (fr := a.tmod 5) (by_ := b.tmod 5) (by omega) xi
  have f2 := lift_full (a.tmod 5) (b.tmod 5) x 0 xs
  have cl3 := substLift_c (x.re (liftG (a.tmod 5) (b.tmod 5)) 0) (a.tmod 5) (c.tmod 5) (by omega)
  rw [liftErr_no e2 (fun p hp => by have := i2 p hp; omega) (by omega) (by omega), if_pos rfl, lift_same x _ _ _ m2.1] at cl3
  generalize x.re (liftG (a.tmod 5) (b.tmod 5)) 0 = x2 at *
  have cl4 := substLift_c x (a.tmod 5) (b.tmod 5 + c.tmod 5) (by omega)
  rw [liftErr_no xe xi1 (by omega) (by omega), if_pos rfl] at cl4
  have e4 := lift_err xe (fr := a.tmod 5) (by_ := b.tmod 5 + c.tmod 5) (by omega)
  have i4 := lift_idx xs (fr := a.tmod 5) (by_ := b.tmod 5 + c.tmod 5) (by omega) xi
  have f4 := lift_full (a.tmod 5) (b.tmod 5 + c.tmod 5) x 0 xs
  have ux := uses_c x (by omega) fun _ p hp => ⟨xn p hp, by have := xi p hp; omega⟩
  have uo := uses_c (x.re (liftG (a.tmod 5) (b.tmod 5 + c.tmod 5)) 0) (by omega) fun _ p hp => ⟨Tm.vars_nonneg _ (err_zero e4).1 0 p hp, by have := i4 p hp; omega⟩
  rw [xe, if_pos rfl] at ux
  rw [e4, if_pos rfl, uses_lift xs m1.1 (by omega)] at uo
  have rx := sameTm_r x (by omega)
  have ro := sameTm_r (x.re (liftG (a.tmod 5) (b.tmod 5 + c.tmod 5)) 0) (by omega)
  have ub := uses_bd xi
  have ul := usesI_len x
  have sx := (err_zero xe).2
  generalize x.re (liftG (a.tmod 5) (b.tmod 5 + c.tmod 5)) 0 = o at *
  generalize usesI x = ps at *
  obtain ⟨qs, hqs⟩ : ∃ qs, qs = ps.map (shI (a.tmod 5) (b.tmod 5 + c.tmod 5)) := ⟨_, rfl⟩
  rw [← hqs] at uo
  have ql : qs.length = ps.length := by rw [hqs, List.length_map]
  have qg : ∀ i (h : i < ps.length) (h' : i < qs.length), qs[i] = shI (a.tmod 5) (b.tmod 5 + c.tmod 5) ps[i] := fun i h h' => by subst hqs; rw [List.getElem_map]
  refine AC.mk Tryd.func5 rfl rfl rfl rfl rfl (Nat.le_of_ble_eq_true rfl) ?_
  repeat' (first | ((with_reducible refine D.nil ?_); refine AX.nilL ?_) | ((with_reducible refine D.load ?_); refine L.ldb U U U U U U ?_) | ((with_reducible refine D.move ?_); refine L.mv U U U ?_) | ((with_reducible refine D.assign ?_); refine L.asg U U U ?_) | ((with_reducible refine D.bin ?_); first | refine L.ad U U U U (by omega) ?_ | refine L.rm U U U U (by omega) ?_ | refine L.bn U U U U U ?_) | ((with_reducible refine D.call ?_); first | refine L.lnt U U U U ?_ | refine L.c2 (sane03_c) U U U U ?_ | refine L.c2 (hf) U U U U ?_ | (apply L.cb2 (hn) [] 1 rfl; rfl; rfl; rfl; rfl; rfl; rfl; (focus ((repeat' (first | exact trivial)); done)); rfl; rfl; rfl; rfl) | (apply L.cb2 (hcx) [0] 0 rfl; rfl; rfl; rfl; rfl; rfl; rfl; (focus ((repeat' (first | exact trivial | refine And.intro ?_ ?_ | refine ⟨_, U, _, U, _, U, ?_⟩ | exact VLe.refl _)); done)); rfl; rfl; rfl; rfl) | (apply L.cb2 (ts) [0] 0 rfl; rfl; rfl; rfl; rfl; rfl; rfl; (focus ((repeat' (first | exact trivial | refine And.intro ?_ ?_ | refine ⟨_, U, _, U, _, U, ?_⟩ | exact VLe.refl _)); done)); rfl; rfl; rfl; rfl) | (apply L.cb2 (tx) [0] 0 rfl; rfl; rfl; rfl; rfl; rfl; rfl; (focus ((repeat' (first | exact trivial | refine And.intro ?_ ?_ | refine ⟨_, U, _, U, _, U, ?_⟩ | exact VLe.refl _)); done)); rfl; rfl; rfl; rfl) | refine L.c2 (cl1) U U U U ?_ | refine L.c2 (cw) U U U U ?_ | refine L.c2 (cl2) U U U U ?_ | refine L.c2 (cl3) U U U U ?_ | refine L.c2 (cl4) U U U U ?_ | refine L.c2 (ux) U U U U ?_ | refine L.c2 (uo) U U U U ?_ | refine L.c2 (rx) U U U U ?_ | refine L.c2 (ro) U U U U ?_) | ((with_reducible refine D.extract ?_); refine L.ex U U U U ?_) | ((with_reducible refine D.alloc ?_); refine L.al U U U ?_) | ((with_reducible refine D.store ?_); refine L.st U U U U U U U U U ?_) | ((with_reducible refine D.not ?_); refine L.nt U U U ?_) | ((with_reducible refine D.pick ?_); refine L.pk U U U U ?_) | ((with_reducible refine D.ax ?_); refine L.cvi U U U U U (by omega) ?_) | ((with_reducible refine D.aw ?_); first | refine K.sq (AW.regL ?_) | refine K.sq (K.sq ?_) | refine AW.regL ?_ | refine AW.condF U ?_ | refine AW.condS U (fun h => ?_) (fun h => ?_) | refine AW.skip ?_ | refine AW.ret ?_) | with_reducible refine K.tN ?_ | with_reducible refine K.tR ?_ | with_reducible refine K.r1 (by with_unfolding_all rfl) (by with_unfolding_all rfl) ?_)
  · exfalso; simp [ql] at h
  clear hcx ts tx cl1 cw cl2 cl3 cl4 ux uo rx ro
  refine AW.range ps.length (fun m => True)
    (fun m => ([(12, .i (a.tmod 5)), (13, .i (b.tmod 5)), (14, .i (c.tmod 5)), (26, .s .int qs), (143, .s .int ps), (144, .i ps.length), (145, .i m)], ⟨0, []⟩))
    (by omega) (fun m => rfl) (fun m => rfl) U trivial (Weak.mk [] _ _ _ U U U U (by (repeat' (first | exact trivial | refine And.intro ?_ ?_ | refine ⟨_, U, _, U, ?_⟩ | exact VLe.refl _)); done) (by (repeat' (first | exact trivial)); done)) ?_ ?_
  · intro m hm hP
    have hq : m < qs.length := by omega
    have hg := qg m hm hq
    have hv := ub ps[m] (List.getElem_mem hm)
    repeat' (first | ((with_reducible refine D.nil ?_); refine AX.nilL ?_) | ((with_reducible refine D.load ?_); refine L.lda U U U U U ?_) | ((with_reducible refine D.move ?_); refine L.mv U U U ?_) | ((with_reducible refine D.assign ?_); refine L.asg U U U ?_) | ((with_reducible refine D.bin ?_); first | refine L.ad U U U U (by omega) ?_ | refine L.bn U U U U U ?_) | ((with_reducible refine D.indexAddr ?_); refine L.ixt _ U U U U U U U (by assumption) ?_) | ((with_reducible refine D.aw ?_); first | refine K.sq (AW.regL ?_) | refine K.sq (K.sq ?_) | refine AW.regL ?_ | refine AW.condS U (fun h => ?_) (fun h => ?_) | refine AW.skip ?_ | refine AW.ret ?_) | with_reducible refine K.tN ?_ | with_reducible refine K.bN ?_ | with_reducible refine K.tR ?_ | with_reducible refine K.bR ?_ | with_reducible refine K.gR ?_ | with_reducible refine K.r1 (by with_unfolding_all rfl) (by with_unfolding_all rfl) ?_)
    · rename_i h0
      have h1 : ps[m] ≥ a.tmod 5 := by simpa using h0
      exfalso; simp [hg, shI, h1] at h
    · exact ⟨rfl, trivial, (Weak.mk [] _ _ _ U U U U (by (repeat' (first | exact trivial | refine And.intro ?_ ?_ | refine ⟨_, U, _, U, ?_⟩ | exact VLe.refl _)); done) (by (repeat' (first | exact trivial)); done))⟩
    · rename_i h0
      have h1 : ¬ ps[m] ≥ a.tmod 5 := by simpa using h0
      exfalso; simp only [hg, shI, if_neg h1] at h; simp at h
    · exact ⟨rfl, trivial, (Weak.mk [] _ _ _ U U U U (by (repeat' (first | exact trivial | refine And.intro ?_ ?_ | refine ⟨_, U, _, U, ?_⟩ | exact VLe.refl _)); done) (by (repeat' (first | exact trivial)); done))⟩
  · intro _
    repeat' (first | ((with_reducible refine D.nil ?_); refine AX.nilL ?_) | ((with_reducible refine D.assign ?_); refine L.asg U U U ?_) | ((with_reducible refine D.aw ?_); first | refine K.sq (AW.regL ?_) | refine AW.ret ?_) | with_reducible refine K.tN ?_ | with_reducible refine K.r1 (by with_unfolding_all rfl) (by with_unfolding_all rfl) ?_)
    rfl
end Go.Ab
