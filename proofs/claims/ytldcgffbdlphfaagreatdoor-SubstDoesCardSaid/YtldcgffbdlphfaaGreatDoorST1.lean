/- A part of the proofs of this seat's statements: Y0, Y1, S69, S78, S70, S79, S80, S81. It has no conditions of its own. -/
import Derived.Shelf.SlIterI.Sorted
import Derived.Shelf.SlIterI.Keys
import Derived.Shelf.SortM.Plain
import Derived.Shelf.SortM.SortNone
import Derived.Test.YtldcgffbdlphfaaGreatDoorRows
import Derived.Test.YtldcgffbdlphfaaGreatDoorS1
import Derived.Test.YtldcgffbdlphfaaGreatDoorAT1
import Derived.Test.YtldcgffbdlphfaaGreatDoorDT1
import Derived.Test.YtldcgffbdlphfaaGreatDoorS2
import Derived.Test.YtldcgffbdlphfaaGreatDoorD1
import Derived.Test.YtldcgffbdlphfaaGreatDoorA2
/-
  DERIVED: THE SHELF's CONTRACTS AT THIS DUMP, IN PLAIN WORDS (tools/lay-plain.mjs out of 'YL.lean', which tools/lay-shelf.mjs wrote): THE SAME DECLARATIONS UNDER THE SAME NAMES: 'import', 'namespace', 'open', 'def', 'theorem' AND NOTHING ELSE: no command of the shelf's: FOR A HAND-IN. Each laying: the table of numbers ('.._ren') and one theorem, a field a fact of the dump's own or the kernel's comparison; each contract: ONE APPLICATION.
-/
namespace Go.Proofs
open Go.Shelf
def Tryz.keysA_ren : Go.Shelf.Ren := ⟨fun | 7 => 74 | 10 => 143 | n => n, fun | 23 => 88 | 26 => 3 | 3 => 4 | 28 => 93 | 0 => 0 | 27 => 92 | 33 => 97 | 4 => 4 | n => n, fun | n => n⟩
theorem Tryz.keysA : Go.Proofs.SlLaysZI.n7 Tryz.prog Tryz.keysA_ren := {
  mixed := by kernel_rfl
  f7 := ⟨Tryz.f74.name, by decide, Tryz.func74.trans (congrArg some (by kernel_rfl))⟩
  f10 := ⟨Tryz.f143.name, by decide, Tryz.func143.trans (congrArg some (by kernel_rfl))⟩
  t0 := Tryz.underlying0
  a0 := Tryz.isAgg0
  z0 := Tryz.sizeOf0
  v0 := Tryz.zeroValue0
  t4 := Tryz.underlying4
  a4 := Tryz.isAgg4
  z4 := Tryz.sizeOf4
  v4 := Tryz.zeroValue4
  t23 := Tryz.underlying88
  a23 := Tryz.isAgg88
  z23 := Tryz.sizeOf88
  v23 := Tryz.zeroValue88
  t26 := Tryz.underlying3
  a26 := Tryz.isAgg3
  z26 := Tryz.sizeOf3
  v26 := Tryz.zeroValue3
  t27 := Tryz.underlying92
  a27 := Tryz.isAgg92
  z27 := Tryz.sizeOf92
  v27 := Tryz.zeroValue92
  t28 := Tryz.underlying93
  a28 := Tryz.isAgg93
  z28 := Tryz.sizeOf93
  v28 := Tryz.zeroValue93
  t33 := Tryz.underlying97
  a33 := Tryz.isAgg97
  z33 := Tryz.sizeOf97
  v33 := Tryz.zeroValue97 }
def Tryz.sortedA_ren : Go.Shelf.Ren := ⟨fun | 6 => 73 | 8 => 141 | 9 => 142 | 11 => 174 | 13 => 176 | 12 => 175 | 23 => 198 | 24 => 199 | 14 => 189 | 15 => 190 | 16 => 191 | 17 => 192 | 18 => 193 | 19 => 194 | 20 => 195 | 21 => 196 | 22 => 197 | 25 => 204 | 26 => 205 | 27 => 206 | 28 => 207 | 29 => 208 | 30 => 209 | 31 => 213 | n => n, fun | 26 => 3 | 28 => 93 | 24 => 22 | 0 => 0 | 3 => 3 | 37 => 148 | 48 => 164 | 50 => 166 | 4 => 4 | 40 => 157 | 39 => 156 | 45 => 141 | 5 => 5 | 9 => 9 | 51 => 171 | 55 => 175 | 57 => 181 | 58 => 182 | 33 => 97 | n => n, fun | n => n⟩
theorem Tryz.sortedA : Go.Proofs.SlLaysZI.n6 Tryz.prog Tryz.sortedA_ren := {
  mixed := by kernel_rfl
  f6 := ⟨Tryz.f73.name, by decide, Tryz.func73.trans (congrArg some (by kernel_rfl))⟩
  f8 := ⟨Tryz.f141.name, by decide, Tryz.func141.trans (congrArg some (by kernel_rfl))⟩
  f11 := ⟨Tryz.f174.name, by decide, Tryz.func174.trans (congrArg some (by kernel_rfl))⟩
  t0 := Tryz.underlying0
  a0 := Tryz.isAgg0
  z0 := Tryz.sizeOf0
  v0 := Tryz.zeroValue0
  t24 := Tryz.underlying22
  a24 := Tryz.isAgg22
  z24 := Tryz.sizeOf22
  v24 := Tryz.zeroValue22
  t26 := Tryz.underlying3
  a26 := Tryz.isAgg3
  z26 := Tryz.sizeOf3
  v26 := Tryz.zeroValue3
  t28 := Tryz.underlying93
  a28 := Tryz.isAgg93
  z28 := Tryz.sizeOf93
  v28 := Tryz.zeroValue93
  i26 := by kernel_rfl }
def Tryz.sortA_ren : Go.Shelf.Ren := ⟨fun | 5 => 142 | 8 => 176 | 7 => 175 | 19 => 198 | 20 => 199 | 10 => 189 | 11 => 190 | 12 => 191 | 13 => 192 | 14 => 193 | 15 => 194 | 16 => 195 | 17 => 196 | 18 => 197 | 30 => 204 | 31 => 205 | 32 => 206 | 33 => 207 | 34 => 208 | 35 => 209 | 40 => 213 | n => n, fun | 23 => 22 | 25 => 3 | 3 => 3 | 32 => 148 | 22 => 22 | 0 => 0 | 44 => 164 | 46 => 166 | 4 => 4 | 36 => 157 | 35 => 156 | 41 => 141 | 5 => 5 | 9 => 9 | 53 => 171 | 57 => 175 | 63 => 181 | 64 => 182 | n => n, fun | n => n⟩
theorem Tryz.sortA : Go.Proofs.SlLaysM.n5 Tryz.prog Tryz.sortA_ren := {
  mixed := by kernel_rfl
  f5 := ⟨Tryz.f142.name, by decide, Tryz.func142.trans (congrArg some (by kernel_rfl))⟩
  f7 := ⟨Tryz.f175.name, by decide, Tryz.func175.trans (congrArg some (by kernel_rfl))⟩
  f8 := Tryz.func176.trans (congrArg some (by kernel_rfl))
  f10 := ⟨Tryz.f189.name, by decide, Tryz.func189.trans (congrArg some (by kernel_rfl))⟩
  f11 := ⟨Tryz.f190.name, by decide, Tryz.func190.trans (congrArg some (by kernel_rfl))⟩
  f12 := ⟨Tryz.f191.name, by decide, Tryz.func191.trans (congrArg some (by kernel_rfl))⟩
  f13 := ⟨Tryz.f192.name, by decide, Tryz.func192.trans (congrArg some (by kernel_rfl))⟩
  f14 := ⟨Tryz.f193.name, by decide, Tryz.func193.trans (congrArg some (by kernel_rfl))⟩
  f15 := ⟨Tryz.f194.name, by decide, Tryz.func194.trans (congrArg some (by kernel_rfl))⟩
  f16 := ⟨Tryz.f195.name, by decide, Tryz.func195.trans (congrArg some (by kernel_rfl))⟩
  f17 := ⟨Tryz.f196.name, by decide, Tryz.func196.trans (congrArg some (by kernel_rfl))⟩
  f18 := ⟨Tryz.f197.name, by decide, Tryz.func197.trans (congrArg some (by kernel_rfl))⟩
  f19 := Tryz.func198.trans (congrArg some (by kernel_rfl))
  f20 := Tryz.func199.trans (congrArg some (by kernel_rfl))
  f30 := ⟨Tryz.f204.name, by decide, Tryz.func204.trans (congrArg some (by kernel_rfl))⟩
  f31 := Tryz.func205.trans (congrArg some (by kernel_rfl))
  f32 := Tryz.func206.trans (congrArg some (by kernel_rfl))
  f33 := ⟨Tryz.f207.name, by decide, Tryz.func207.trans (congrArg some (by kernel_rfl))⟩
  f34 := ⟨Tryz.f208.name, by decide, Tryz.func208.trans (congrArg some (by kernel_rfl))⟩
  f35 := ⟨Tryz.f209.name, by decide, Tryz.func209.trans (congrArg some (by kernel_rfl))⟩
  f40 := ⟨Tryz.f213.name, by decide, Tryz.func213.trans (congrArg some (by kernel_rfl))⟩
  t0 := Tryz.underlying0
  a0 := Tryz.isAgg0
  z0 := Tryz.sizeOf0
  v0 := Tryz.zeroValue0
  t3 := Tryz.underlying3
  a3 := Tryz.isAgg3
  z3 := Tryz.sizeOf3
  v3 := Tryz.zeroValue3
  t4 := Tryz.underlying4
  a4 := Tryz.isAgg4
  z4 := Tryz.sizeOf4
  v4 := Tryz.zeroValue4
  t5 := Tryz.underlying5
  a5 := Tryz.isAgg5
  z5 := Tryz.sizeOf5
  v5 := Tryz.zeroValue5
  t9 := Tryz.underlying9
  a9 := Tryz.isAgg9
  z9 := Tryz.sizeOf9
  v9 := Tryz.zeroValue9
  t22 := Tryz.underlying22
  a22 := Tryz.isAgg22
  z22 := Tryz.sizeOf22
  v22 := Tryz.zeroValue22
  t23 := Tryz.underlying22
  a23 := Tryz.isAgg22
  z23 := Tryz.sizeOf22
  v23 := Tryz.zeroValue22
  t25 := Tryz.underlying3
  a25 := Tryz.isAgg3
  z25 := Tryz.sizeOf3
  v25 := Tryz.zeroValue3
  t32 := Tryz.underlying148
  a32 := Tryz.isAgg148
  z32 := Tryz.sizeOf148
  v32 := Tryz.zeroValue148
  t35 := Tryz.underlying156
  a35 := Tryz.isAgg156
  z35 := Tryz.sizeOf156
  v35 := Tryz.zeroValue156
  t36 := Tryz.underlying157
  a36 := Tryz.isAgg157
  z36 := Tryz.sizeOf157
  v36 := Tryz.zeroValue157
  t41 := Tryz.underlying141
  a41 := Tryz.isAgg141
  z41 := Tryz.sizeOf141
  v41 := Tryz.zeroValue141
  t44 := Tryz.underlying164
  a44 := Tryz.isAgg164
  z44 := Tryz.sizeOf164
  v44 := Tryz.zeroValue164
  t46 := Tryz.underlying166
  a46 := Tryz.isAgg166
  z46 := Tryz.sizeOf166
  v46 := Tryz.zeroValue166
  t53 := Tryz.underlying171
  a53 := Tryz.isAgg171
  z53 := Tryz.sizeOf171
  v53 := Tryz.zeroValue171
  t57 := Tryz.underlying175
  a57 := Tryz.isAgg175
  z57 := Tryz.sizeOf175
  v57 := Tryz.zeroValue175
  t63 := Tryz.underlying181
  a63 := Tryz.isAgg181
  z63 := Tryz.sizeOf181
  v63 := Tryz.zeroValue181
  t64 := Tryz.underlying182
  a64 := Tryz.isAgg182
  z64 := Tryz.sizeOf182
  v64 := Tryz.zeroValue182 }
end Go.Proofs
namespace Go.Ab
open Go Go.Proofs Go.RowKit
set_option linter.all false
set_option maxRecDepth 100000
theorem sorts_in (m : Nat) : AnyZI.SortsIn E.P Tryz.sortedA_ren Fence.wide m :=
  ⟨fun blk off cap ss W hH hblk hsz => callsIn_wide.2 (AnyM.slices_Sort_int Tryz.sortA blk off cap ss W hH hblk hsz), fun p cap W => callsIn_wide.2 (AnyM.slices_Sort_int_none Tryz.sortA p cap W)⟩
theorem mapKeys_c {σ : Sto} {n : Nat} (h : n < σ.nx) : AC E 74 [.mp n] σ (.fn (.func 143) [] [.ptr σ.nx 0]) ⟨σ.nx + 1, (σ.nx, .var [.mp n]) :: σ.es⟩ :=
  AC.mapKeys (E := E) (ρ7 := Tryz.keysA_ren) Tryz.keysA (enters_of Tryz.func74 (by kernel_rfl) rfl) h
theorem sorted_c {σ : Sto} {n b : Nat} {c : EC} {ks : List Int} {xs : List c.sem} (hb : findE σ.es b = some (.var [.mp n])) (hn : findE σ.es n = some (.map c ks xs))
    (hnd : ks.Nodup) (hwf : ∀ x ∈ ks, (Lit.int .i64 x).wf = true) (hmax : ks.length < 549755813888) :
    AC E 73 [.fn (.func 143) [] [.ptr b 0]] σ (.s .int (sortI ks)) σ :=
  AC.sortedKeys (E := E) (ρ7 := Tryz.keysA_ren) (ρ6 := Tryz.sortedA_ren) Tryz.keysA Tryz.sortedA sorts_in (enters_of Tryz.func73 (by kernel_rfl) rfl) (enters_of Tryz.func142 (by kernel_rfl) rfl)
    (enters_of Tryz.func143 (by kernel_rfl) rfl) (by kernel_rfl) hb hn hnd hwf (Nat.le_trans (Nat.le_of_lt hmax) (by decide)) (by omega)
end Go.Ab
namespace Go.Ab
open Go Go.Proofs
set_option maxRecDepth 100000
set_option linter.all false
theorem usesCb (ks : List Int) (i bl : Int) (hi : 0 ≤ i ∧ i < 9223372036854775808) (hb : 0 ≤ bl ∧ bl < 1099511627776) : AC E 72 [.i i, .i bl, .ptr 0 0] ⟨2, [(0, .var [.mp 1]), (1, .map .bl ks (List.replicate ks.length true))]⟩ (.tup [])
    ⟨2, [(0, .var [.mp 1]), (1, .map .bl (nub ks (fre [(i, bl)])) (List.replicate (nub ks (fre [(i, bl)])).length true))]⟩ := by
  refine AC.mk Tryz.func72 rfl rfl rfl rfl rfl (Nat.le_of_ble_eq_true rfl) ?_
  repeat' (first | ((with_reducible refine D.nil ?_); refine AX.nilL ?_) | ((with_reducible refine D.load ?_); refine L.ldb U U U U U U ?_) | ((with_reducible refine D.move ?_); refine L.mv U U U ?_) | ((with_reducible refine D.bin ?_); first | refine L.sb U U U U (by omega) ?_ | refine L.bn U U U U U ?_) | ((with_reducible refine D.ax ?_); refine L.muB U U U U U U U U ?_) | ((with_reducible refine D.aw ?_); first | refine K.sq (AW.regL ?_) | refine AW.regL ?_ | refine AW.condS U (fun h => ?_) (fun h => ?_) | refine AW.skip ?_) | with_reducible refine K.tN ?_)
  · have h2 : bl ≤ i := by simpa using h
    (exact K.n2 [some 0, some 1] U U U U U (by (repeat' (first | exact trivial | refine And.intro ?_ ?_ | refine ⟨_, U, _, U, _, U, ?_⟩ | exact VLe.refl _ | refine ⟨_, U, _, _, U, ?_, ?_⟩ | (simp [Sto.upd, fre_one, nub_one, putCs_same, if_pos h2]; done))); done) U (by simp [tupV, V.wk, V.wks, constV, Ty.view, Tm.view, fre_one, nub_one, putCs_same, if_pos h2]))
  · have h2 : ¬ bl ≤ i := by simpa using h
    (exact K.n2 [some 0, some 1] U U U U U (by (repeat' (first | exact trivial | refine And.intro ?_ ?_ | refine ⟨_, U, _, U, _, U, ?_⟩ | exact VLe.refl _ | refine ⟨_, U, _, _, U, ?_, ?_⟩ | (simp [Sto.upd, fre_one, nub_nil, if_neg h2]; done))); done) U (by simp [tupV, V.wk, V.wks, constV, Ty.view, Tm.view, fre_one, nub_nil, if_neg h2]))
theorem usesEach1 : ∀ (n : Nat) (t : Tm) (ks : List Int) (bl : Int), t.full ≤ n → n < 1099511627776 → 0 ≤ bl → bl + n < 1099511627776 → (∀ p ∈ t.vars bl, 0 ≤ p.1 ∧ p.1 < 9223372036854775808) → AC E 140 [.agg t.view, .i bl, .ptr 0 0, .ptr 1 0] ⟨4, [(0, .var [.fn (.func 72) [] [.ptr 2 0]]), (1, .var [.fn (.func 140) [] [.ptr 0 0, .ptr 1 0]]), (2, .var [.mp 3]), (3, .map .bl ks (List.replicate ks.length true))]⟩ (.tup [])
    ⟨4, [(0, .var [.fn (.func 72) [] [.ptr 2 0]]), (1, .var [.fn (.func 140) [] [.ptr 0 0, .ptr 1 0]]), (2, .var [.mp 3]), (3, .map .bl (nub ks (fre (t.vars bl))) (List.replicate (nub ks (fre (t.vars bl))).length true))]⟩ := by
  intro n
  induction n with
  | zero => intro t b bl h; have := t.full_pos; omega
  | succ n ih =>
  intro t ks bl hsz hb hbl hbn hix
  have hsz' := Tm.full_eq t
  have hlen := lsum_len Tm.full Tm.full_pos t.args
  have hv := Tm.vars_eq bl t
  have hi : t.kind = 1 → 0 ≤ t.index ∧ t.index < 9223372036854775808 := fun h => by simpa using hix (t.index, bl) (by rw [hv]; simp [h])
  have hcb : t.kind = 1 → _ := fun h => usesCb ks t.index bl (hi h) (by omega)
  refine AC.mk Tryz.func140 rfl rfl rfl rfl rfl (Nat.le_of_ble_eq_true rfl) ?_
  repeat' (first | ((with_reducible refine D.nil ?_); refine AX.nilL ?_) | ((with_reducible refine D.load ?_); refine L.ldb U U U U U U ?_) | ((with_reducible refine D.move ?_); refine L.mv U U U ?_) | ((with_reducible refine D.fieldAddr ?_); refine L.fab U U U U U ?_) | ((with_reducible refine D.assign ?_); refine L.asg U U U ?_) | ((with_reducible refine D.bin ?_); first | refine L.ad U U U U (by omega) ?_ | refine L.bn U U U U U ?_) | ((with_reducible refine D.call ?_); first | refine L.lnt U U U U ?_ | (apply L.cv2 (hcb (by simpa using h)) [2, 3] 0 rfl; rfl; rfl; rfl; rfl; rfl; rfl; rfl; (focus ((repeat' (first | exact trivial | refine And.intro ?_ ?_ | refine ⟨_, U, _, U, _, U, ?_⟩ | exact VLe.refl _ | refine ⟨_, U, _, _, U, ?_, ?_⟩ | with_reducible exact rfl)); done)); rfl; rfl; rfl; rfl)) | ((with_reducible refine D.box ?_); refine L.bx U U U U ?_) | ((with_reducible refine D.aw ?_); first | refine K.sq (AW.regL ?_) | refine K.sq (K.sq ?_) | refine AW.regL ?_ | refine AW.condS U (fun h => ?_) (fun h => ?_) | refine AW.skip ?_) | with_reducible refine K.tN ?_)
  all_goals
    have hup : up t.kind bl ≤ bl + 1 := by simp only [up]; split <;> omega
    have hup0 : 0 ≤ up t.kind bl := by simp only [up]; split <;> omega
    refine AW.range t.args.length (fun m => True)
      (fun m => ([(1, .i (up t.kind bl)), (3, .ptr 1 0), (22, .s .tm t.args), (23, .i t.args.length), (24, .i m)], ⟨5, [(0, .var [.fn (.func 72) [] [.ptr 2 0]]), (1, .var [.fn (.func 140) [] [.ptr 0 0, .ptr 1 0]]), (2, .var [.mp 3]), (3, .map .bl (nub ks (fre ((if t.kind = 1 then [(t.index, bl)] else []) ++ (t.args.take m).flatMap (Tm.vars (up t.kind bl))))) (List.replicate (nub ks (fre ((if t.kind = 1 then [(t.index, bl)] else []) ++ (t.args.take m).flatMap (Tm.vars (up t.kind bl))))).length true)), (4, .var t.view)]⟩))
      (by omega) (fun m => rfl) (fun m => rfl) rfl trivial ?_ ?_ ?_
    · simp_all only [beq_iff_eq, beq_eq_false_iff_ne, ne_eq]
      exact (Weak.mk [some 0, some 1, some 2, some 3, some 4] _ _ _ U U U U (by (repeat' (first | exact trivial | refine And.intro ?_ ?_ | refine ⟨_, U, _, U, ?_⟩ | exact VLe.refl _ | exact VLe.of_eq (by simp [Sto.upd, up, *, fre_app, fre_nil, nub_nil]))); done) (by (repeat' (first | exact trivial | refine And.intro ?_ ?_ | refine ⟨_, U, _, U, _, U, ?_⟩ | exact VLe.refl _ | refine ⟨_, U, _, _, U, ?_, ?_⟩ | (simp [Sto.upd, up, *, fre_app, fre_nil, nub_nil]; done))); done))
    · intro m hm hP
      have hs2 := lsum_mem Tm.full (List.getElem_mem hm)
      have hix' : ∀ p ∈ (t.args[m]).vars (up t.kind bl), 0 ≤ p.1 ∧ p.1 < 9223372036854775808 := fun p hp => hix p (by rw [hv]; exact List.mem_append_right _ (List.mem_flatMap.2 ⟨_, List.getElem_mem hm, hp⟩))
      have hc := ih t.args[m] (nub ks (fre ((if t.kind = 1 then [(t.index, bl)] else []) ++ (t.args.take m).flatMap (Tm.vars (up t.kind bl))))) (up t.kind bl) (by omega) (by omega) hup0 (by omega) hix'
      repeat' (first | ((with_reducible refine D.nil ?_); refine AX.nilL ?_) | ((with_reducible refine D.load ?_); first | refine L.ldb U U U U U U ?_ | refine L.lda U U U U U ?_) | ((with_reducible refine D.move ?_); refine L.mv U U U ?_) | ((with_reducible refine D.call ?_); (apply L.cv2 (hc) [0, 1, 2, 3] 0 rfl; rfl; rfl; rfl; rfl; rfl; rfl; rfl; (focus ((repeat' (first | exact trivial | refine And.intro ?_ ?_ | refine ⟨_, U, _, U, _, U, ?_⟩ | exact VLe.refl _ | refine ⟨_, U, _, _, U, ?_, ?_⟩ | with_reducible exact rfl)); done)); rfl; rfl; rfl; rfl)) | ((with_reducible refine D.alloc ?_); refine L.al U U U ?_) | ((with_reducible refine D.store ?_); refine L.st U U U U U U U U U ?_) | ((with_reducible refine D.indexAddr ?_); refine L.ixt _ U U U U U U U (by assumption) ?_) | ((with_reducible refine D.aw ?_); first | refine K.sq (AW.regL ?_) | refine AW.regL ?_) | with_reducible refine K.tN ?_ | with_reducible refine K.bN ?_)
      refine ⟨rfl, trivial, ?_⟩
      exact (Weak.mk [some 0, some 1, some 2, some 3, some 4] _ _ _ U U U U (by (repeat' (first | exact trivial | refine And.intro ?_ ?_ | refine ⟨_, U, _, U, ?_⟩ | exact VLe.refl _)); done) (by (repeat' (first | exact trivial | refine And.intro ?_ ?_ | refine ⟨_, U, _, U, _, U, ?_⟩ | exact VLe.refl _ | refine ⟨_, U, _, _, U, ?_, ?_⟩ | (simp [Sto.upd, fre_app, nub_app, flat_take _ _ _ hm, ← List.append_assoc]; done))); done))
    · intro hP
      skip
      (exact K.n2 [some 0, some 1, some 2, some 3] U U U U U (by (repeat' (first | exact trivial | refine And.intro ?_ ?_ | refine ⟨_, U, _, U, _, U, ?_⟩ | exact VLe.refl _ | refine ⟨_, U, _, _, U, ?_, ?_⟩ | (simp [Sto.upd, hv]; done))); done) U (by simp [tupV, V.wk, V.wks, constV, Ty.view, Tm.view, hv]))
theorem usesEach (t : Tm) (ht : t.full < 549755813888) (hix : ∀ p ∈ t.vars 0, 0 ≤ p.1 ∧ p.1 < 9223372036854775808) : AC E 71 [.agg t.view, .fn (.func 72) [] [.ptr 0 0]] ⟨2, [(0, .var [.mp 1]), (1, .map .bl [] [])]⟩ (.tup []) ⟨2, [(0, .var [.mp 1]), (1, .map .bl (useK t) (List.replicate (useK t).length true))]⟩ := by
  have hc := usesEach1 _ t [] 0 (Nat.le_refl _) (by omega) (by omega) (by omega) hix
  simp only [List.length_nil, List.replicate_zero] at hc
  refine AC.mk Tryz.func71 rfl rfl rfl rfl rfl (Nat.le_of_ble_eq_true rfl) ?_
  repeat' (first | ((with_reducible refine D.nil ?_); refine AX.nilL ?_) | ((with_reducible refine D.load ?_); refine L.ldb U U U U U U ?_) | ((with_reducible refine D.call ?_); (apply L.cv2 (hc) [3, 4, 0, 1] 0 rfl; rfl; rfl; rfl; rfl; rfl; rfl; rfl; (focus ((repeat' (first | exact trivial | refine And.intro ?_ ?_ | refine ⟨_, U, _, U, _, U, ?_⟩ | exact VLe.refl _ | refine ⟨_, U, _, _, U, ?_, ?_⟩ | with_reducible exact rfl)); done)); rfl; rfl; rfl; rfl)) | ((with_reducible refine D.box ?_); refine L.bx U U U U ?_) | ((with_reducible refine D.alloc ?_); refine L.al U U U ?_) | ((with_reducible refine D.store ?_); refine L.st U U U U U U U U U ?_) | ((with_reducible refine D.ax ?_); refine L.mf U U U U ?_) | ((with_reducible refine D.aw ?_); first | refine K.sq (AW.regL ?_) | refine AW.regL ?_) | with_reducible refine K.tN ?_)
  (exact K.n2 [some 0, some 1] U U U U U (by (repeat' (first | exact trivial | refine And.intro ?_ ?_ | refine ⟨_, U, _, U, _, U, ?_⟩ | exact VLe.refl _ | refine ⟨_, U, _, _, U, ?_, ?_⟩ | (simp [Sto.upd, useK]; done))); done) U (by simp [tupV, V.wk, V.wks, constV, Ty.view, Tm.view, useK]))
theorem useK_wf {t : Tm} (hix : ∀ p ∈ t.vars 0, 0 ≤ p.1 ∧ p.1 < 9223372036854775808) : ∀ x ∈ useK t, (Lit.int .i64 x).wf = true := fun x hx => by
  obtain ⟨h0, h1⟩ := mem_useK.1 hx
  obtain ⟨p, hp, rfl⟩ := mem_cnt.2 h1
  have h2 := hix p hp
  have h3 := vars_snd t 0 p hp
  have h4 : IntKind.i64.min ≤ p.1 - p.2 ∧ p.1 - p.2 ≤ IntKind.i64.max := by
    rw [show IntKind.i64.min = -9223372036854775808 by rfl, show IntKind.i64.max = 9223372036854775807 by rfl]; omega
  simpa [Lit.wf] using h4
theorem uses_c (t : Tm) (ht : t.full < 549755813888) (hix : t.err = 0 → ∀ p ∈ t.vars 0, 0 ≤ p.1 ∧ p.1 < 9223372036854775808) : PC E 13 [.agg t.view] (.tup [.s .int (if t.err = 0 then usesI t else []), .i t.err]) := by
  have h1 := check_c t (by omega)
  have hc : t.err = 0 → _ := fun h => usesEach t ht (hix h)
  have hk : AC E 74 [.mp 0] ⟨1, [(0, .map .bl (useK t) (List.replicate (useK t).length true))]⟩ (.fn (.func 143) [] [.ptr 1 0]) ⟨2, [(1, .var [.mp 0]), (0, .map .bl (useK t) (List.replicate (useK t).length true))]⟩ := mapKeys_c (Nat.lt_succ_self 0)
  have hlen := useK_len t
  have hsz := t.size_le_full
  have hs : t.err = 0 → AC E 73 [.fn (.func 143) [] [.ptr 0 0]] ⟨2, [(0, .var [.mp 1]), (1, .map .bl (useK t) (List.replicate (useK t).length true))]⟩ (.s .int (usesI t)) ⟨2, [(0, .var [.mp 1]), (1, .map .bl (useK t) (List.replicate (useK t).length true))]⟩ :=
    fun h => sorted_c (c := .bl) rfl rfl (useK_nodup t) (useK_wf (hix h)) (by omega)
  refine AC.mk Tryz.func13 rfl rfl rfl rfl rfl (Nat.le_of_ble_eq_true rfl) ?_
  repeat' (first | ((with_reducible refine D.nil ?_); refine AX.nilL ?_) | ((with_reducible refine D.load ?_); refine L.ldb U U U U U U ?_) | ((with_reducible refine D.move ?_); refine L.mv U U U ?_) | ((with_reducible refine D.assign ?_); refine L.asg U U U ?_) | ((with_reducible refine D.bin ?_); refine L.bn U U U U U ?_) | ((with_reducible refine D.call ?_); first | refine L.c2 (h1) U U U U ?_ | (apply L.cb2 (hc (by simpa using h)) [2, 1] 0 rfl; rfl; rfl; rfl; rfl; rfl; rfl; (focus ((repeat' (first | exact trivial | refine And.intro ?_ ?_ | refine ⟨_, U, _, U, _, U, ?_⟩ | exact VLe.refl _ | refine ⟨_, U, _, _, U, ?_, ?_⟩ | with_reducible exact rfl)); done)); rfl; rfl; rfl; rfl) | (apply L.cb2 (hk) [1] 1 rfl; rfl; rfl; rfl; rfl; rfl; rfl; (focus ((repeat' (first | exact trivial | refine And.intro ?_ ?_ | refine ⟨_, U, _, _, U, ?_, ?_⟩ | with_reducible exact rfl)); done)); rfl; rfl; rfl; rfl) | (apply L.cb2 (hs (by simpa using h)) [3, 1] 0 rfl; rfl; rfl; rfl; rfl; rfl; rfl; (focus ((repeat' (first | exact trivial | refine And.intro ?_ ?_ | refine ⟨_, U, _, U, _, U, ?_⟩ | exact VLe.refl _ | refine ⟨_, U, _, _, U, ?_, ?_⟩ | with_reducible exact rfl)); done)); rfl; rfl; rfl; rfl)) | ((with_reducible refine D.box ?_); refine L.bx U U U U ?_) | ((with_reducible refine D.alloc ?_); refine L.al U U U ?_) | ((with_reducible refine D.store ?_); refine L.st U U U U U U U U U ?_) | ((with_reducible refine D.ax ?_); first | refine L.mf U U U U ?_ | refine L.mmB U U U U U ?_) | ((with_reducible refine D.aw ?_); first | refine K.sq (AW.regL ?_) | refine K.sq (K.sq ?_) | refine AW.regL ?_ | refine AW.condS U (fun h => ?_) (fun h => ?_) | refine AW.skip ?_ | refine AW.ret ?_) | with_reducible refine K.tN ?_ | with_reducible refine K.tR ?_ | with_reducible refine K.r1 (by with_unfolding_all rfl) (by with_unfolding_all rfl) ?_)
  · have e : ¬ t.err = 0 := by simpa using h
    rw [if_neg e]; simp [tupV, V.wk, V.wks]; rfl
  · have e : t.err = 0 := by simpa using h
    rw [if_pos e]; simp [tupV, V.wk, V.wks, e]
end Go.Ab
namespace Go.Ab
open Go Go.Proofs
set_option maxRecDepth 100000
set_option maxHeartbeats 4000000
set_option linter.all false
def srJ (r : Nat) : List Int → AF × Sto
  | [] => ([(3, .slice .nil (.t .int [])), (7, .raw (.pointer (some ⟨r, 0, none⟩)))], ⟨1, [(0, .gone)]⟩)
  | x :: d => ([(3, .arr 1 (d.length + 1) 1), (7, .raw (.pointer (some ⟨r, 0, none⟩)))], ⟨2, [(1, .var ((sortI (x :: d)).flatMap EC.int.view)), (0, .gone)]⟩)
theorem srJ_snoc (r : Nat) (d : List Int) (q : Int) : srJ r (d ++ [q]) = ([(3, .arr 1 (d.length + 1) 1), (7, .raw (.pointer (some ⟨r, 0, none⟩)))], ⟨2, [(1, .var ((sortI (d ++ [q])).flatMap EC.int.view)), (0, .gone)]⟩) := by
  cases d with
  | nil => rfl
  | cons x d => simp [srJ]
/-- The greater ones move. -/
def srL (r : Nat) (l : List Int) (q : Int) (i : Nat) : AF × Sto := ([(3, .arr 1 (l.length + 1) 1), (4, .i q), (5, .i i), (7, .raw (.pointer (some ⟨r, 0, none⟩)))], ⟨2, [(1, .var ((insS (sortI l) q i).flatMap EC.int.view)), (0, .gone)]⟩)
theorem sortedR_c {ks : List Int} (hnd : ks.Nodup) (hlen : ks.length < 549755813888) : AC E 77 [.mp 0] ⟨1, [(0, .map .bl ks (List.replicate ks.length true))]⟩ (.s .int (sortI ks)) ⟨1, [(0, .map .bl ks (List.replicate ks.length true))]⟩ := by
  refine AC.mk Tryz.func77 rfl rfl rfl rfl rfl (Nat.le_of_ble_eq_true rfl) ?_
  repeat' (first | ((with_reducible refine D.nil ?_); refine AX.nilL ?_) | ((with_reducible refine D.assign ?_); refine L.asg U U U ?_) | ((with_reducible refine D.aw ?_); (fail_if_success with_reducible refine D.stopR (id := 2) ?_); (fail_if_success with_reducible refine D.stopS (id := 2) ?_); refine K.sq (AW.regL ?_)) | with_reducible refine K.tN ?_)
  refine K.sq (AW.rangeM (n := 0) (c := .bl) (ks := ks) (xs := List.replicate ks.length true) (kt := 3) (et := 4) (J := srJ) ?_ ?_ ?_ ?_ hnd ?_ ?_ ?_ ?_ ?_ ?_ ?_)
  · rfl
  · rfl
  · exact Nat.lt_succ_self 0
  · kernel_rfl
  · rfl
  · intro r l; cases l <;> rfl
  · intro r l t ht
    simp only [List.mem_cons, List.not_mem_nil, or_false] at ht
    rcases ht with rfl | rfl | rfl | rfl | rfl <;> cases l <;> rfl
  · intro r l e he; cases l <;> cases he <;> rfl
  · intro r
    exact (Weak.mk [some 0] _ _ _ U U U U (by (repeat' (first | exact trivial | refine And.intro ?_ ?_ | refine ⟨_, U, _, U, ?_⟩ | exact VLe.refl _)); done) (by (repeat' (first | exact trivial | refine And.intro ?_ ?_ | exact Eq.refl true)); done))
  · intro r l q hl hlk hq hql
    have hll := nodup_sub hl hlk
    have hsl := sortI_len l
    rw [srJ_snoc]
    have tail : ∀ (i : Nat), i ≤ l.length → (∀ x ∈ (sortI l).drop i, q < x) → (∀ (hi : 0 < i) (hl : i - 1 < (sortI l).length), (sortI l)[i - 1] ≤ q) → ((insS (sortI l) q i).set i q) = sortI (l ++ [q]) := fun i hi h1 h2 => by
      rw [insS_done (by omega)]; exact sortI_ins h1 h2 (by omega)
    have hE : insS (sortI l) q l.length = sortI l ++ [q] := by rw [← hsl]; exact insS_end _ _
    have hat : ∀ j (h : j < l.length) (h' : j < (insS (sortI l) q (j + 1)).length), (insS (sortI l) q (j + 1))[j] = (sortI l)[j]'(by omega) := fun j h h' => insS_at (by omega) h'
    have hst : ∀ j (h : j < l.length), (insS (sortI l) q (j + 1)).set (j + 1) ((sortI l)[j]'(by omega)) = insS (sortI l) q j := fun j h => insS_step (by omega)
    have hln : ∀ i, i ≤ l.length → (insS (sortI l) q i).length = l.length + 1 := fun i hi => by rw [insS_len (by omega), hsl]
    cases l with
    | nil =>
      repeat' (first | ((with_reducible refine D.nil ?_); refine AX.nilL ?_) | ((with_reducible refine D.move ?_); refine L.mv U U U ?_) | ((with_reducible refine D.assign ?_); refine L.asg U U U ?_) | ((with_reducible refine D.call ?_); refine L.lnt U U U U ?_) | ((with_reducible refine D.aw ?_); (fail_if_success with_reducible refine D.stopR (id := 6) ?_); (fail_if_success with_reducible refine D.stopS (id := 6) ?_); refine K.sq (AW.regL ?_)) | with_reducible refine K.tN ?_)
      refine K.sq (AW.regL ?_)
      refine L.mv rfl rfl rfl ?_
      refine L.mv rfl rfl rfl ?_
      refine L.bs1 rfl rfl rfl rfl rfl (EC.fold_of rfl) rfl rfl ?_
      refine L.apA (te := 3) (e := .int) (l := [q]) rfl rfl rfl rfl (by kernel_rfl) rfl rfl rfl rfl (by simp) (by simp) ?_
      repeat' (first | ((with_reducible refine D.nil ?_); refine AX.nilL ?_) | ((with_reducible refine D.assign ?_); refine L.asg U U U ?_) | with_reducible refine K.tN ?_)
      refine K.sq (AW.block (AW.loop (ι := { i : Nat // i ≤ 0 ∧ ∀ x ∈ (sortI []).drop i, q < x }) (fun i => srL r [] q i.1) (fun i => i.1) ⟨0, Nat.le_refl _, by simp [sortI_nil]⟩ ?_ ?_))
      · show Weak _ _ _ _ _ (srL r [] q 0).1 (srL r [] q 0).2
        simp only [srL]
        rw [show insS (sortI []) q 0 = [q] from hE.trans (by rw [sortI_nil]; rfl)]
        exact (Weak.mk [some 0, some 1] _ _ _ U U U U (by (repeat' (first | exact trivial | refine And.intro ?_ ?_ | refine ⟨_, U, _, U, ?_⟩ | exact VLe.refl _)); done) (by (repeat' (first | exact trivial | refine And.intro ?_ ?_ | refine ⟨_, U, _, U, _, U, ?_⟩ | exact VLe.refl _ | exact Eq.refl true)); done))
      · rintro ⟨i, hi, h1⟩
        obtain rfl : i = 0 := by omega
        repeat' (first | ((with_reducible refine D.nil ?_); refine AX.nilL ?_) | ((with_reducible refine D.load ?_); refine AX.sk U U ?_) | ((with_reducible refine D.move ?_); first | refine L.mv U U U ?_ | refine AX.sk U U ?_) | ((with_reducible refine D.bin ?_); first | refine L.bn U U U U U ?_ | refine AX.sk U U ?_) | ((with_reducible refine D.indexAddr ?_); refine AX.sk U U ?_) | ((with_reducible refine D.pick ?_); refine L.pk U U U U ?_) | ((with_reducible refine D.aw ?_); first | refine K.sq (K.sq ?_) | refine AW.regL ?_ | refine AW.condF U ?_ | refine AW.exit ?_) | with_reducible refine K.tN ?_ | with_reducible refine K.tE ?_ | with_reducible refine K.bX (by with_unfolding_all rfl) ?_ | with_reducible refine K.lE ?_)
        refine L.ixr 0 rfl rfl rfl rfl rfl (by decide) rfl ?_
        refine L.sta (c := .int) (l := insS (sortI []) q 0) (u := q) 0 rfl rfl rfl rfl rfl rfl rfl rfl (by rw [hln 0 (Nat.le_refl _)]; decide) rfl ?_
        repeat' (first | ((with_reducible refine D.nil ?_); refine AX.nilL ?_))
        refine ⟨rfl, ?_⟩
        simp only [tail 0 (Nat.le_refl _) h1 (fun h => absurd h (by decide))]
        exact (Weak.mk [some 0, some 1] _ _ _ U U U U (by (repeat' (first | exact trivial | refine And.intro ?_ ?_ | refine ⟨_, U, _, U, ?_⟩ | exact VLe.refl _)); done) (by (repeat' (first | exact trivial | refine And.intro ?_ ?_ | exact VsLe.refl _ | exact Eq.refl true | refine ⟨_, U, _, renVs_flat _ _ _, _, U, ?_⟩)); done))
    | cons x d =>
      skip
      refine K.sq (AW.regL ?_)
      refine L.mv rfl rfl rfl ?_
      refine L.lnR rfl rfl rfl rfl ?_
      repeat' (first | ((with_reducible refine D.nil ?_); refine AX.nilL ?_) | ((with_reducible refine D.assign ?_); refine L.asg U U U ?_) | with_reducible refine K.tN ?_)
      refine K.sq (AW.regL ?_)
      refine L.mv rfl rfl rfl ?_
      refine L.mv rfl rfl rfl ?_
      refine L.bs1 rfl rfl rfl rfl rfl (EC.fold_of rfl) rfl rfl ?_
      refine L.apR (te := 3) (e := .int) (l := [q]) rfl rfl rfl rfl (by kernel_rfl) rfl rfl (by rw [fview_len, hsl]; rfl) rfl rfl rfl (by simp) (by simp only [List.length_cons, List.length_nil] at hll ⊢; omega) ?_
      rw [← List.flatMap_append]
      repeat' (first | ((with_reducible refine D.nil ?_); refine AX.nilL ?_) | ((with_reducible refine D.assign ?_); refine L.asg U U U ?_) | with_reducible refine K.tN ?_)
      refine K.sq (AW.block (AW.loop (ι := { i : Nat // i ≤ (x :: d).length ∧ ∀ y ∈ (sortI (x :: d)).drop i, q < y }) (fun i => srL r (x :: d) q i.1) (fun i => i.1) ⟨(x :: d).length, Nat.le_refl _, by rw [← hsl, List.drop_length]; intro y hy; cases hy⟩ ?_ ?_))
      · show Weak _ _ _ _ _ (srL r (x :: d) q (x :: d).length).1 (srL r (x :: d) q (x :: d).length).2
        simp only [srL]
        rw [hE]
        exact (Weak.mk [some 0, some 2] _ _ _ U U U U (by (repeat' (first | exact trivial | refine And.intro ?_ ?_ | refine ⟨_, U, _, U, ?_⟩ | exact VLe.refl _)); done) (by (repeat' (first | exact trivial | refine And.intro ?_ ?_ | exact VsLe.refl _ | exact Eq.refl true | refine ⟨_, U, _, renVs_flat _ _ _, _, U, ?_⟩)); done))
      · rintro ⟨i, hi, h1⟩
        cases i with
        | zero =>
          repeat' (first | ((with_reducible refine D.nil ?_); refine AX.nilL ?_) | ((with_reducible refine D.load ?_); refine AX.sk U U ?_) | ((with_reducible refine D.move ?_); first | refine L.mv U U U ?_ | refine AX.sk U U ?_) | ((with_reducible refine D.bin ?_); first | refine L.bn U U U U U ?_ | refine AX.sk U U ?_) | ((with_reducible refine D.indexAddr ?_); refine AX.sk U U ?_) | ((with_reducible refine D.pick ?_); refine L.pk U U U U ?_) | ((with_reducible refine D.aw ?_); first | refine K.sq (K.sq ?_) | refine AW.regL ?_ | refine AW.condF U ?_ | refine AW.exit ?_) | with_reducible refine K.tN ?_ | with_reducible refine K.tE ?_ | with_reducible refine K.bX (by with_unfolding_all rfl) ?_ | with_reducible refine K.lE ?_)
          refine L.ixr 0 rfl rfl rfl rfl rfl (Nat.succ_pos _) rfl ?_
          refine L.sta (c := .int) (l := insS (sortI (x :: d)) q 0) (u := q) 0 rfl rfl rfl rfl rfl rfl rfl rfl (by rw [hln 0 (Nat.zero_le _)]; exact Nat.succ_pos _) rfl ?_
          repeat' (first | ((with_reducible refine D.nil ?_); refine AX.nilL ?_))
          refine ⟨rfl, ?_⟩
          simp only [tail 0 (Nat.zero_le _) h1 (fun h => absurd h (by decide))]
          exact (Weak.mk [some 0, some 1] _ _ _ U U U U (by (repeat' (first | exact trivial | refine And.intro ?_ ?_ | refine ⟨_, U, _, U, ?_⟩ | exact VLe.refl _)); done) (by (repeat' (first | exact trivial | refine And.intro ?_ ?_ | exact VsLe.refl _ | exact Eq.refl true | refine ⟨_, U, _, renVs_flat _ _ _, _, U, ?_⟩)); done))
        | succ i =>
          have hi' : i < (x :: d).length := by omega
          have hsi : i < (sortI (x :: d)).length := by omega
          have hdl : (x :: d).length = d.length + 1 := rfl
          have hl0 := hln (i + 1) hi
          have hl1 : i < (insS (sortI (x :: d)) q (i + 1)).length := by omega
          have ha := hat i hi' hl1
          have hs := hst i hi'
          show AW _ _ _ _ (srL r (x :: d) q (i + 1)).1 (srL r (x :: d) q (i + 1)).2 _
          repeat' (first | ((with_reducible refine D.nil ?_); refine AX.nilL ?_) | ((with_reducible refine D.load ?_); refine AX.sk U U ?_) | ((with_reducible refine D.move ?_); first | refine L.mv U U U ?_ | refine AX.sk U U ?_ | ((fail_if_success refine AX.wt U ?_); refine AX.gs U U (fun _ => trivial) (fun h => ?_) (fun h => ?_))) | ((with_reducible refine D.bin ?_); first | refine L.sb U U U U (by omega) ?_ | refine L.bn U U U U U ?_ | refine AX.sk U U ?_) | ((with_reducible refine D.indexAddr ?_); refine AX.sk U U ?_) | ((with_reducible refine D.pick ?_); refine L.pk U U U U ?_) | ((with_reducible refine D.aw ?_); first | refine K.sq (K.sq ?_) | refine AW.regL ?_ | refine AW.condF U ?_ | refine AW.exit ?_) | with_reducible refine K.tN ?_ | with_reducible refine K.tE ?_ | with_reducible refine K.bX (by with_unfolding_all rfl) ?_ | with_reducible refine K.lE ?_)
          · refine L.ixr i rfl rfl rfl rfl (by simp) (by omega) rfl ?_
            refine L.ldr (c := .int) (l := insS (sortI (x :: d)) q (i + 1)) i rfl rfl rfl rfl rfl hl1 rfl rfl rfl ?_
            rw [ha]
            repeat' (first | ((with_reducible refine D.nil ?_); refine AX.nilL ?_) | ((with_reducible refine D.move ?_); refine L.mv U U U ?_) | ((with_reducible refine D.bin ?_); refine L.bn U U U U U ?_) | ((with_reducible refine D.pick ?_); refine L.pk U U U U ?_) | ((with_reducible refine D.aw ?_); first | refine AW.regL ?_ | refine AW.condS U (fun h => ?_) (fun h => ?_) | refine AW.skip ?_ | refine AW.exit ?_) | with_reducible refine K.tN ?_ | with_reducible refine K.tE ?_ | with_reducible refine K.bX (by with_unfolding_all rfl) ?_ | with_reducible refine K.lE ?_)
            · have hgt : q < (sortI (x :: d))[i] := by simpa using h
              repeat' (first | ((with_reducible refine D.move ?_); refine L.mv U U U ?_) | ((with_reducible refine D.bin ?_); refine L.sb U U U U (by omega) ?_) | ((with_reducible refine D.aw ?_); first | ((with_reducible refine D.blk ?_); refine AW.block ?_) | refine K.sq (AW.regL ?_)))
              refine L.ixr i rfl rfl rfl rfl (by simp) (by omega) rfl ?_
              refine L.ldr (c := .int) (l := insS (sortI (x :: d)) q (i + 1)) i rfl rfl rfl rfl rfl hl1 rfl rfl rfl ?_
              rw [ha]
              refine L.ixr (i + 1) rfl rfl rfl rfl rfl (by omega) rfl ?_
              refine L.sta (c := .int) (l := insS (sortI (x :: d)) q (i + 1)) (u := (sortI (x :: d))[i]) (i + 1) rfl rfl rfl rfl rfl rfl rfl rfl (by omega) rfl ?_
              rw [hs]
              repeat' (first | ((with_reducible refine D.nil ?_); refine AX.nilL ?_) | ((with_reducible refine D.move ?_); refine L.mv U U U ?_) | ((with_reducible refine D.assign ?_); refine L.asg U U U ?_) | ((with_reducible refine D.bin ?_); refine L.sb U U U U (by omega) ?_) | ((with_reducible refine D.aw ?_); refine AW.regL ?_) | with_reducible refine K.tN ?_ | with_reducible refine K.bN ?_)
              refine ⟨⟨i, by omega, fun y hy => ?_⟩, by show i < i + 1; omega, ?_⟩
              · rw [List.drop_eq_getElem_cons hsi] at hy
                rcases List.mem_cons.1 hy with rfl | hy
                · exact hgt
                · exact h1 y hy
              · simp only [srL, show (((i + 1 : Nat) : Int) - 1) = (i : Int) by omega]
                exact (Weak.mk [some 0, some 1] _ _ _ U U U U (by (repeat' (first | exact trivial | refine And.intro ?_ ?_ | refine ⟨_, U, _, U, ?_⟩ | exact VLe.refl _)); done) (by (repeat' (first | exact trivial | refine And.intro ?_ ?_ | exact VsLe.refl _ | exact Eq.refl true | refine ⟨_, U, _, renVs_flat _ _ _, _, U, ?_⟩)); done))
            · have hle : (sortI (x :: d))[i] ≤ q := by simpa using h
              refine L.ixr (i + 1) rfl rfl rfl rfl rfl (by omega) rfl ?_
              refine L.sta (c := .int) (l := insS (sortI (x :: d)) q (i + 1)) (u := q) (i + 1) rfl rfl rfl rfl rfl rfl rfl rfl (by omega) rfl ?_
              repeat' (first | ((with_reducible refine D.nil ?_); refine AX.nilL ?_))
              refine ⟨rfl, ?_⟩
              simp only [tail (i + 1) hi h1 (fun _ _ => hle)]
              exact (Weak.mk [some 0, some 1] _ _ _ U U U U (by (repeat' (first | exact trivial | refine And.intro ?_ ?_ | refine ⟨_, U, _, U, ?_⟩ | exact VLe.refl _)); done) (by (repeat' (first | exact trivial | refine And.intro ?_ ?_ | exact VsLe.refl _ | exact Eq.refl true | refine ⟨_, U, _, renVs_flat _ _ _, _, U, ?_⟩)); done))
          · exfalso
            simp at h
  · intro r l hp
    cases l with
    | nil =>
      have hk0 : ks = [] := by simpa using hp.symm.eq_nil
      subst hk0
      simp only [srJ, sortI_nil]
      repeat' (first | ((with_reducible refine D.nil ?_); refine AX.nilL ?_) | ((with_reducible refine D.move ?_); refine L.mv U U U ?_) | ((with_reducible refine D.assign ?_); refine L.asg U U U ?_) | ((with_reducible refine D.aw ?_); first | refine K.sq (AW.regL ?_) | refine AW.ret ?_) | with_reducible refine K.tN ?_)
      (exact K.n2 [some 0] U U U U U (by (repeat' (first | exact trivial | refine And.intro ?_ ?_ | refine ⟨_, U, _, _, U, ?_, ?_⟩ | with_reducible exact rfl)); done) U (by simp [tupV, V.wk, V.wks, constV, Ty.view, Tm.view, sortI_nil]))
    | cons x d =>
      have hk0 : sortI (x :: d) = sortI ks := sortI_of_perm hp
      simp only [srJ, hk0]
      refine AW.frz (c := .int) 1 (d.length + 1) (sortI ks) U (by rw [← hk0, sortI_len]; rfl) (by (repeat' (first | exact trivial | exact fun _ => rfl | exact fun h => absurd U h | exact fun h => absurd h (by decide) | refine And.intro ?_ ?_ | intro _)); done) (by (repeat' (first | exact trivial | exact fun _ => rfl | exact fun h => absurd U h | exact fun h => absurd h (by decide) | refine And.intro ?_ ?_ | intro _)); done) ?_
      repeat' (first | ((with_reducible refine D.nil ?_); refine AX.nilL ?_) | ((with_reducible refine D.move ?_); refine L.mv U U U ?_) | ((with_reducible refine D.assign ?_); refine L.asg U U U ?_) | ((with_reducible refine D.aw ?_); first | refine K.sq (AW.regL ?_) | refine AW.ret ?_) | with_reducible refine K.tN ?_)
      (exact K.n2 [some 0] U U U U U (by (repeat' (first | exact trivial | refine And.intro ?_ ?_ | refine ⟨_, U, _, _, U, ?_, ?_⟩ | with_reducible exact rfl)); done) U (by simp [tupV, V.wk, V.wks, constV, Ty.view, Tm.view, V.frz]))
end Go.Ab
namespace Go.Ab
open Go Go.Proofs
set_option maxRecDepth 100000
set_option linter.all false
theorem substLower_w (t : Tm) (a : Int) (ht : t.full < 274877906944) (hix : t.err = 0 → ∀ p ∈ t.vars 0, 0 ≤ p.1 ∧ p.1 < 9223372036854775808) :
    PC E 21 [.agg t.view, .i a] (.tup [.agg (if lowerErr t a = 0 then t.re (putG a noTm) 0 else noTm).view, .i (lowerErr t a)]) := by
  have h1 := check_c t (by omega)
  have h2 := within_c a
  have h3 : t.err = 0 → _ := fun he => count_w t a (by omega) (hix he)
  have h4 : t.err = 0 → (0 ≤ a ∧ a ≤ 4096) → _ := fun he h => put_w t a noTm (by omega) (by simp [noTm, Tm.full, Tm.fulls, Ty.size, Ty.sizes]) (by simp [noTm, Tm.vars, Tm.varss]) ht (hix he)
  have hc := cnt_le a (t.vars 0)
  have hv := t.vars_len 0
  have hz := t.size_le_full
  refine AC.mk Tryz.func21 rfl rfl rfl rfl rfl (Nat.le_of_ble_eq_true rfl) ?_
  repeat' (first | ((with_reducible refine D.nil ?_); first | refine AX.nilL ?_ | refine AX.nilD (by kernel_rfl) ?_) | ((with_reducible refine D.load ?_); first | refine L.ldb U U U U U U ?_ | refine L.lda U U U U U ?_ | refine AX.sk U U ?_ | ((fail_if_success refine AX.wt U ?_); refine AX.gs U U (fun _ => trivial) (fun h => ?_) (fun h => ?_))) | ((with_reducible refine D.move ?_); first | refine L.mv U U U ?_ | refine AX.sk U U ?_ | ((fail_if_success refine AX.wt U ?_); refine AX.gs U U (fun _ => trivial) (fun h => ?_) (fun h => ?_))) | ((with_reducible refine D.fieldAddr ?_); first | refine L.fab U U U U U ?_ | refine L.faa U U U U U U ?_ | refine AX.sk U U ?_ | ((fail_if_success refine AX.wt U ?_); refine AX.gs U U (fun _ => trivial) (fun h => ?_) (fun h => ?_))) | ((with_reducible refine D.assign ?_); first | refine L.asg U U U ?_ | refine AX.sk U U ?_ | ((fail_if_success refine AX.wt U ?_); refine AX.gs U U (fun _ => trivial) (fun h => ?_) (fun h => ?_))) | ((with_reducible refine D.bin ?_); first | refine L.ad U U U U (by omega) ?_ | refine L.sb U U U U (by omega) ?_ | refine L.ml U U U U (by first | omega | assumption) ?_ | refine L.rm U U U U (by omega) ?_ | refine L.bn U U U U U ?_ | refine AX.sk U U ?_ | ((fail_if_success refine AX.wt U ?_); refine AX.gs U U (fun _ => trivial) (fun h => ?_) (fun h => ?_)) | refine L.be U U U U U ?_ | refine L.bnq U U U U U ?_) | ((with_reducible refine D.call ?_); first | refine L.lnt U U U U ?_ | refine L.ln U U U U ?_ | refine L.apt U U U U U U (by first | exact trivial | exact ⟨rfl, trivial⟩) U U (by first | omega | (simp; omega)) ?_ | refine L.aptF U U U U (by first | assumption | simp) U U U (by first | omega | (simp; omega)) ?_ | refine L.c2 (h1) U U U U ?_ | refine L.c2 (h2) U U U U ?_ | refine L.c2 (h3 (by simp_all)) U U U U ?_ | refine L.c2 (h4 (by simp_all) (by simp_all)) U U U U ?_ | refine AX.sk U U ?_ | ((fail_if_success refine AX.wt U ?_); refine AX.gs U U (fun _ => trivial) (fun h => ?_) (fun h => ?_)) | refine L.apE U U U U U U U ?_ | refine L.lnm U U U U U ?_) | ((with_reducible refine D.extract ?_); first | refine L.ex U U U U ?_ | refine AX.sk U U ?_ | ((fail_if_success refine AX.wt U ?_); refine AX.gs U U (fun _ => trivial) (fun h => ?_) (fun h => ?_))) | ((with_reducible refine D.box ?_); first | refine L.bx U U U U ?_ | refine AX.sk U U ?_ | ((fail_if_success refine AX.wt U ?_); refine AX.gs U U (fun _ => trivial) (fun h => ?_) (fun h => ?_))) | ((with_reducible refine D.alloc ?_); first | refine L.al U U U ?_ | refine AX.sk U U ?_ | ((fail_if_success refine AX.wt U ?_); refine AX.gs U U (fun _ => trivial) (fun h => ?_) (fun h => ?_))) | ((with_reducible refine D.store ?_); first | refine L.st U U U U U U U U U ?_ | refine AX.sk U U ?_ | ((fail_if_success refine AX.wt U ?_); refine AX.gs U U (fun _ => trivial) (fun h => ?_) (fun h => ?_))) | ((with_reducible refine D.indexAddr ?_); first | refine L.ixt _ U U U U U U U (by first | assumption | omega | (simp only [Ty.args_mk, Tm.args_mk, List.length_cons, List.length_nil, List.getElem_cons_zero, List.getElem_cons_succ]; omega) | (simp at *; omega) | (simp; done)) ?_ | refine L.ixt 0 U U U U U U U (by first | assumption | omega | (simp only [Ty.args_mk, Tm.args_mk, List.length_cons, List.length_nil, List.getElem_cons_zero, List.getElem_cons_succ]; omega) | (simp at *; omega) | (simp; done)) ?_ | refine L.ixt 1 U U U U U U U (by first | assumption | omega | (simp only [Ty.args_mk, Tm.args_mk, List.length_cons, List.length_nil, List.getElem_cons_zero, List.getElem_cons_succ]; omega) | (simp at *; omega) | (simp; done)) ?_ | refine L.ixt 2 U U U U U U U (by first | assumption | omega | (simp only [Ty.args_mk, Tm.args_mk, List.length_cons, List.length_nil, List.getElem_cons_zero, List.getElem_cons_succ]; omega) | (simp at *; omega) | (simp; done)) ?_ | refine AX.sk U U ?_ | ((fail_if_success refine AX.wt U ?_); refine AX.gs U U (fun _ => trivial) (fun h => ?_) (fun h => ?_)) | refine L.ixb 0 U U U U U (by decide) U ?_ | refine L.ixb 1 U U U U U (by decide) U ?_ | refine L.ixb 2 U U U U U (by decide) U ?_) | ((with_reducible refine D.not ?_); first | refine L.nt U U U ?_ | refine AX.sk U U ?_ | ((fail_if_success refine AX.wt U ?_); refine AX.gs U U (fun _ => trivial) (fun h => ?_) (fun h => ?_)) | refine L.ng U U U (by omega) ?_) | ((with_reducible refine D.field ?_); first | refine L.fd U U U U U U ?_ | refine AX.sk U U ?_ | ((fail_if_success refine AX.wt U ?_); refine AX.gs U U (fun _ => trivial) (fun h => ?_) (fun h => ?_))) | ((with_reducible refine D.pick ?_); first | refine L.pk U U U U ?_ | refine AX.sk U U ?_ | ((fail_if_success refine AX.wt U ?_); refine AX.gs U U (fun _ => trivial) (fun h => ?_) (fun h => ?_))) | ((with_reducible refine D.ax ?_); first | refine L.nc U U U U ?_ | refine L.bd U U U U U ?_ | refine L.bs1 U U U U U (EC.fold_of U) U U ?_ | refine L.bs1 U U U U U U U U ?_ | refine L.bs2 U U U U U (EC.fold_of U) U U U (EC.fold_of U) U U ?_ | refine L.bs2 U U U U U U U U U U U U ?_ | refine L.bs3 U U U U U (EC.fold_of U) U U U (EC.fold_of U) U U U (EC.fold_of U) U U ?_ | refine L.bs3 U U U U U U U U U U U U U U U U ?_ | refine L.bs 0 U U U U U U U U U U ?_ | refine L.mf U U U U ?_ | refine L.s3 U U U U U U ?_ | refine AX.sk U U ?_ | ((fail_if_success refine AX.wt U ?_); refine AX.gs U U (fun _ => trivial) (fun h => ?_) (fun h => ?_)) | refine L.sl U U U U U U U (by first | omega | (simp only [List.length_cons, List.length_nil]; omega) | (simp; omega) | simp) ?_ | refine L.cvi U U U U U (by omega) ?_ | refine L.mmT U U U U U ?_ | refine L.mmB U U U U U ?_ | refine L.lkuT U U U U U U (by first | assumption | rfl) (by first | assumption | rfl) U ?_ | refine L.lkn U U U U U U (by first | assumption | rfl) U U U ?_ | refine L.muT U U U U U U (EC.fold_of U) U U ?_ | refine L.muT U U U U U U U U U ?_ | refine L.muB U U U U U U U U ?_ | refine L.lkb U U U U U U U U U U ?_) | ((with_reducible refine D.aw ?_); first | ((with_reducible refine D.sblk ?_); refine K.sq (AW.block ?_)) | ((with_reducible refine D.blk ?_); refine AW.block ?_) | refine K.sq (AW.regL ?_) | refine K.sq (AW.regD mixed (by kernel_rfl) ?_) | refine K.sq (K.sq ?_) | refine AW.regL ?_ | refine AW.regD mixed (by kernel_rfl) ?_ | refine K.sq (AW.condT U ?_) | refine K.sq (AW.condF U ?_) | refine AW.condT U ?_ | refine AW.condF U ?_ | refine K.sq (AW.condS U (fun h => ?_) (fun h => ?_)) | refine AW.condS U (fun h => ?_) (fun h => ?_) | refine AW.skip ?_ | refine AW.ret ?_ | refine AW.exit ?_ | refine K.sq (AW.label ?_) | refine AW.label ?_ | refine AW.goto ?_) | with_reducible refine K.tN ?_ | with_reducible refine K.bN ?_ | with_reducible refine K.tR ?_ | with_reducible refine K.bR ?_ | with_reducible refine K.gR ?_ | with_reducible refine K.dR ?_ | with_reducible refine K.cR ?_ | with_reducible refine K.lR ?_ | with_reducible refine K.tE ?_ | with_reducible refine K.bX (by with_unfolding_all rfl) ?_ | with_reducible refine K.bO (by with_unfolding_all rfl) ?_ | with_reducible refine K.gE (by with_unfolding_all rfl) ?_ | with_reducible refine K.gO (by with_unfolding_all rfl) ?_ | with_reducible refine K.cE ?_ | with_reducible refine K.lE ?_ | with_reducible refine K.r1 (by with_unfolding_all rfl) (by with_unfolding_all rfl) ?_ | with_reducible refine K.n1 (by with_unfolding_all rfl) (by with_unfolding_all rfl) ?_ | ((with_reducible show @LE.le Nat _ _ _); omega) | ((with_reducible show @LT.lt Nat _ _ _); omega) | with_reducible refine K.hR ?_ | with_reducible refine K.tG ?_ | with_reducible refine K.bG ?_ | with_reducible refine K.fR ?_ | with_reducible refine K.pR ?_ | with_reducible refine K.uR ?_ | with_reducible refine K.uE ?_)
  · have e' : t.err ≠ 0 := by simpa using h
    have e : lowerErr t a = t.err := by simp only [lowerErr]; rw [if_pos e']
    simp [tupV, V.wk, V.wks, constV, Ty.view, Tm.view, e, noTm, e']
  · rename_i h0
    have e' : ¬ t.err ≠ 0 := by simpa using h0
    have e : lowerErr t a = 1 := by simp only [lowerErr]; rw [if_neg e', if_pos (by intro hc; simp [hc] at h)]
    simp [tupV, V.wk, V.wks, constV, Ty.view, Tm.view, e, noTm]
  · rename_i h0 h5
    have e' : ¬ t.err ≠ 0 := by simpa using h0
    have e2 : 0 ≤ a ∧ a ≤ 4096 := by simpa using h5
    have e : lowerErr t a = 6 := by simp only [lowerErr]; rw [if_neg e', if_neg (fun hc => hc e2), if_pos (by simpa using h)]
    simp [tupV, V.wk, V.wks, constV, Ty.view, Tm.view, e, noTm]
  · rename_i h0 h5
    have e' : ¬ t.err ≠ 0 := by simpa using h0
    have e2 : 0 ≤ a ∧ a ≤ 4096 := by simpa using h5
    have e : lowerErr t a = 0 := by simp only [lowerErr]; rw [if_neg e', if_neg (fun hc => hc e2), if_neg (by simpa using h)]
    simp [tupV, V.wk, V.wks, constV, Ty.view, Tm.view, e, noTm]
end Go.Ab
namespace Go.Ab
open Go Go.Proofs
set_option maxRecDepth 100000
set_option maxHeartbeats 4000000
set_option linter.all false
theorem rmark_c : ∀ (n : Nat) (t : Tm) (ks : List Int) (bl : Int), t.full ≤ n → n < 1099511627776 → 0 ≤ bl → bl + n < 1099511627776 → (∀ p ∈ t.vars bl, 0 ≤ p.1 ∧ p.1 < 9223372036854775808) →
    AC E 76 [.agg t.view, .i bl, .mp 0] ⟨1, [(0, .map .bl ks (List.replicate ks.length true))]⟩ (.tup []) ⟨1, [(0, .map .bl (nub ks (fre (t.vars bl))) (List.replicate (nub ks (fre (t.vars bl))).length true))]⟩ := by
  intro n
  induction n with
  | zero => intro t b bl h; have := t.full_pos; omega
  | succ n ih =>
  intro t ks bl hsz hb hbl hbn hix
  have hsz' := Tm.full_eq t
  have hlen := lsum_len Tm.full Tm.full_pos t.args
  have hv := Tm.vars_eq bl t
  have hbe := rbelow_c t
  have hup := up_bd t.kind bl
  have hpl := up_plus t.kind bl
  have hi : t.kind = 1 → 0 ≤ t.index ∧ t.index < 9223372036854775808 := fun h => by simpa using hix (t.index, bl) (by rw [hv]; simp [h])
  have loopE : ∀ m (hm : m < t.args.length) ks', AC E 76 [.agg (t.args[m]).view, .i (bl + up t.kind 0), .mp 0] ⟨1, [(0, .map .bl ks' (List.replicate ks'.length true))]⟩ (.tup []) ⟨1, [(0, .map .bl (nub ks' (fre ((t.args[m]).vars (up t.kind bl)))) (List.replicate (nub ks' (fre ((t.args[m]).vars (up t.kind bl)))).length true))]⟩ := fun m hm ks' => by
    have hs2 := lsum_mem Tm.full (List.getElem_mem hm)
    have := ih t.args[m] ks' (up t.kind bl) (by omega) (by omega) (by omega) (by omega) (fun p hp => hix p (by rw [hv]; exact List.mem_append_right _ (List.mem_flatMap.2 ⟨_, List.getElem_mem hm, hp⟩)))
    rw [← hpl] at this ⊢; exact this
  obtain ⟨k0, hk0⟩ : ∃ k0, k0 = nub ks (fre (if t.kind = 1 then [(t.index, bl)] else [])) := ⟨_, rfl⟩
  have hk1 : t.kind = 1 → t.index ≥ bl → k0 = putKs (t.index - bl) ks := fun h1 h2 => by rw [hk0, if_pos h1, fre_one, if_pos h2]; exact nub_one _ _
  have hk2 : ¬ (t.kind = 1 ∧ t.index ≥ bl) → k0 = ks := fun h1 => by
    rw [hk0]
    by_cases h2 : t.kind = 1
    · rw [if_pos h2, fre_one, if_neg (fun h3 => h1 ⟨h2, h3⟩)]; rfl
    · rw [if_neg h2]; rfl
  have hend : nub ks (fre (t.vars bl)) = nub k0 (fre (t.args.flatMap (Tm.vars (up t.kind bl)))) := by rw [hv, fre_app, nub_app, hk0]
  rw [hend]
  by_cases hv1 : t.kind = 1 ∧ t.index ≥ bl
  · have e := hk1 hv1.1 hv1.2
    have hi' := hi hv1.1
    refine AC.mk Tryz.func76 rfl rfl rfl rfl rfl (Nat.le_of_ble_eq_true rfl) ?_
    repeat' (first | ((with_reducible refine D.nil ?_); refine AX.nilL ?_) | ((with_reducible refine D.load ?_); first | refine L.ldb U U U U U U ?_ | refine AX.sk U U ?_) | ((with_reducible refine D.move ?_); first | refine L.mv U U U ?_ | refine AX.sk U U ?_) | ((with_reducible refine D.fieldAddr ?_); first | refine L.fab U U U U U ?_ | refine AX.sk U U ?_ | ((fail_if_success refine AX.wt U ?_); refine AX.gs U U (fun _ => trivial) (fun h => ?_) (fun h => ?_))) | ((with_reducible refine D.bin ?_); first | refine L.sb U U U U (by omega) ?_ | refine L.bn U U U U U ?_ | refine AX.sk U U ?_) | ((with_reducible refine D.call ?_); refine L.lnt U U U U ?_) | ((with_reducible refine D.box ?_); refine L.bx U U U U ?_) | ((with_reducible refine D.pick ?_); refine L.pk U U U U ?_) | ((with_reducible refine D.ax ?_); refine L.muB U U U U U U U U ?_) | ((with_reducible refine D.aw ?_); first | refine K.sq (AW.regL ?_) | refine K.sq (K.sq ?_) | refine AW.regL ?_ | refine AW.condF U ?_ | refine AW.condS U (fun h => ?_) (fun h => ?_) | refine AW.skip ?_) | with_reducible refine K.tN ?_)
    rotate_left
    · exfalso; simp at h; omega
    · exfalso; simp at h; exact h hv1.1
    refine AW.range t.args.length (fun m => True)
      (fun m => ([(1, .i bl), (2, .mp 0), (3, .ptr 1 0), (23, .s .tm t.args), (24, .i t.args.length), (25, .i m)], ⟨2, [(0, .map .bl (nub k0 (fre ((t.args.take m).flatMap (Tm.vars (up t.kind bl))))) (List.replicate (nub k0 (fre ((t.args.take m).flatMap (Tm.vars (up t.kind bl))))).length true)), (1, .var t.view)]⟩))
      (by omega) (fun m => rfl) (fun m => rfl) rfl trivial ?_ ?_ ?_
    · simp only [List.take_zero, List.flatMap_nil, fre_nil, nub_nil]
      rw [e]; rw [← putCs_same]; exact (Weak.mk [some 0, some 1] _ _ _ U U U U (by (repeat' (first | exact trivial | refine And.intro ?_ ?_ | refine ⟨_, U, _, U, ?_⟩ | exact VLe.refl _)); done) (by (repeat' (first | exact trivial | refine And.intro ?_ ?_ | refine ⟨_, U, _, U, _, U, ?_⟩ | exact VLe.refl _ | refine ⟨_, U, _, _, U, ?_, ?_⟩ | with_reducible exact rfl)); done))
    · intro m hm hP
      have hc := loopE m hm (nub k0 (fre ((t.args.take m).flatMap (Tm.vars (up t.kind bl)))))
      repeat' (first | ((with_reducible refine D.nil ?_); first | refine AX.nilL ?_ | refine AX.nilD (by kernel_rfl) ?_) | ((with_reducible refine D.load ?_); first | refine L.ldb U U U U U U ?_ | refine L.lda U U U U U ?_) | ((with_reducible refine D.move ?_); refine L.mv U U U ?_) | ((with_reducible refine D.bin ?_); refine L.ad U U U U (by omega) ?_) | ((with_reducible refine D.call ?_); first | refine L.c2 (hbe) U U U U ?_ | (apply L.cb2 (hc) [0] 0 rfl; rfl; rfl; rfl; rfl; rfl; rfl; (focus ((repeat' (first | exact trivial | refine And.intro ?_ ?_ | refine ⟨_, U, _, _, U, ?_, ?_⟩ | with_reducible exact rfl)); done)); rfl; rfl; rfl; rfl)) | ((with_reducible refine D.alloc ?_); refine L.al U U U ?_) | ((with_reducible refine D.store ?_); refine L.st U U U U U U U U U ?_) | ((with_reducible refine D.indexAddr ?_); refine L.ixt _ U U U U U U U (by assumption) ?_) | ((with_reducible refine D.aw ?_); first | refine K.sq (AW.regL ?_) | refine AW.regD mixed (by kernel_rfl) ?_) | with_reducible refine K.tN ?_ | with_reducible refine K.bN ?_)
      refine ⟨rfl, trivial, ?_⟩
      exact (Weak.mk [some 0, some 1] _ _ _ U U U U (by (repeat' (first | exact trivial | refine And.intro ?_ ?_ | refine ⟨_, U, _, U, ?_⟩ | exact VLe.refl _)); done) (by (repeat' (first | exact trivial | refine And.intro ?_ ?_ | refine ⟨_, U, _, U, _, U, ?_⟩ | exact VLe.refl _ | refine ⟨_, U, _, _, U, ?_, ?_⟩ | (simp [Sto.upd, fre_app, nub_app, flat_take _ _ _ hm]; done))); done))
    · intro hP
      simp only [List.take_length]
      skip
      (exact K.n2 [some 0] U U U U U (by (repeat' (first | exact trivial | refine And.intro ?_ ?_ | refine ⟨_, U, _, _, U, ?_, ?_⟩ | with_reducible exact rfl)); done) U (by simp [tupV, V.wk, V.wks, constV, Ty.view, Tm.view, V.frz]))
  · have e := hk2 hv1
    refine AC.mk Tryz.func76 rfl rfl rfl rfl rfl (Nat.le_of_ble_eq_true rfl) ?_
    repeat' (first | ((with_reducible refine D.nil ?_); refine AX.nilL ?_) | ((with_reducible refine D.load ?_); first | refine L.ldb U U U U U U ?_ | refine AX.sk U U ?_) | ((with_reducible refine D.move ?_); first | refine L.mv U U U ?_ | refine AX.sk U U ?_) | ((with_reducible refine D.fieldAddr ?_); first | refine L.fab U U U U U ?_ | refine AX.sk U U ?_ | ((fail_if_success refine AX.wt U ?_); refine AX.gs U U (fun _ => trivial) (fun h => ?_) (fun h => ?_))) | ((with_reducible refine D.bin ?_); first | refine L.bn U U U U U ?_ | refine AX.sk U U ?_) | ((with_reducible refine D.call ?_); refine L.lnt U U U U ?_) | ((with_reducible refine D.box ?_); refine L.bx U U U U ?_) | ((with_reducible refine D.pick ?_); refine L.pk U U U U ?_) | ((with_reducible refine D.ax ?_); refine L.muB U U U U U U U U ?_) | ((with_reducible refine D.aw ?_); first | refine K.sq (AW.regL ?_) | refine K.sq (K.sq ?_) | refine AW.regL ?_ | refine AW.condF U ?_ | refine AW.condS U (fun h => ?_) (fun h => ?_) | refine AW.skip ?_) | with_reducible refine K.tN ?_)
    · rename_i h1'
      exfalso; exact hv1 ⟨by simpa using h1', by simpa using h⟩
    all_goals
      refine AW.range t.args.length (fun m => True)
        (fun m => ([(1, .i bl), (2, .mp 0), (3, .ptr 1 0), (23, .s .tm t.args), (24, .i t.args.length), (25, .i m)], ⟨2, [(0, .map .bl (nub k0 (fre ((t.args.take m).flatMap (Tm.vars (up t.kind bl))))) (List.replicate (nub k0 (fre ((t.args.take m).flatMap (Tm.vars (up t.kind bl))))).length true)), (1, .var t.view)]⟩))
        (by omega) (fun m => rfl) (fun m => rfl) rfl trivial ?_ ?_ ?_
      · simp only [List.take_zero, List.flatMap_nil, fre_nil, nub_nil]
        rw [e]; exact (Weak.mk [some 0, some 1] _ _ _ U U U U (by (repeat' (first | exact trivial | refine And.intro ?_ ?_ | refine ⟨_, U, _, U, ?_⟩ | exact VLe.refl _)); done) (by (repeat' (first | exact trivial | refine And.intro ?_ ?_ | refine ⟨_, U, _, U, _, U, ?_⟩ | exact VLe.refl _ | refine ⟨_, U, _, _, U, ?_, ?_⟩ | with_reducible exact rfl)); done))
      · intro m hm hP
        have hc := loopE m hm (nub k0 (fre ((t.args.take m).flatMap (Tm.vars (up t.kind bl)))))
        repeat' (first | ((with_reducible refine D.nil ?_); first | refine AX.nilL ?_ | refine AX.nilD (by kernel_rfl) ?_) | ((with_reducible refine D.load ?_); first | refine L.ldb U U U U U U ?_ | refine L.lda U U U U U ?_) | ((with_reducible refine D.move ?_); refine L.mv U U U ?_) | ((with_reducible refine D.bin ?_); refine L.ad U U U U (by omega) ?_) | ((with_reducible refine D.call ?_); first | refine L.c2 (hbe) U U U U ?_ | (apply L.cb2 (hc) [0] 0 rfl; rfl; rfl; rfl; rfl; rfl; rfl; (focus ((repeat' (first | exact trivial | refine And.intro ?_ ?_ | refine ⟨_, U, _, _, U, ?_, ?_⟩ | with_reducible exact rfl)); done)); rfl; rfl; rfl; rfl)) | ((with_reducible refine D.alloc ?_); refine L.al U U U ?_) | ((with_reducible refine D.store ?_); refine L.st U U U U U U U U U ?_) | ((with_reducible refine D.indexAddr ?_); refine L.ixt _ U U U U U U U (by assumption) ?_) | ((with_reducible refine D.aw ?_); first | refine K.sq (AW.regL ?_) | refine AW.regD mixed (by kernel_rfl) ?_) | with_reducible refine K.tN ?_ | with_reducible refine K.bN ?_)
        refine ⟨rfl, trivial, ?_⟩
        exact (Weak.mk [some 0, some 1] _ _ _ U U U U (by (repeat' (first | exact trivial | refine And.intro ?_ ?_ | refine ⟨_, U, _, U, ?_⟩ | exact VLe.refl _)); done) (by (repeat' (first | exact trivial | refine And.intro ?_ ?_ | refine ⟨_, U, _, U, _, U, ?_⟩ | exact VLe.refl _ | refine ⟨_, U, _, _, U, ?_, ?_⟩ | (simp [Sto.upd, fre_app, nub_app, flat_take _ _ _ hm]; done))); done))
      · intro hP
        simp only [List.take_length]
        skip
        (exact K.n2 [some 0] U U U U U (by (repeat' (first | exact trivial | refine And.intro ?_ ?_ | refine ⟨_, U, _, _, U, ?_, ?_⟩ | with_reducible exact rfl)); done) U (by simp [tupV, V.wk, V.wks, constV, Ty.view, Tm.view, V.frz]))
theorem ruses_c (t : Tm) (ht : t.full < 549755813888) (hix : t.err = 0 → ∀ p ∈ t.vars 0, 0 ≤ p.1 ∧ p.1 < 9223372036854775808) : PC E 14 [.agg t.view] (.tup [.s .int (if t.err = 0 then usesI t else []), .i t.err]) := by
  have h1 := checkTmR_c t (by omega)
  have hc : t.err = 0 → _ := fun h => rmark_c _ t [] 0 (Nat.le_refl _) (by omega) (by omega) (by omega) (hix h)
  have hu : nub [] (fre (t.vars 0)) = useK t := rfl
  simp only [List.length_nil, List.replicate_zero, hu] at hc
  have hlen := useK_len t
  have hsz := t.size_le_full
  have hs := sortedR_c (useK_nodup t) (by omega)
  have e0 : sortI (useK t) = usesI t := rfl
  rw [e0] at hs
  refine AC.mk Tryz.func14 rfl rfl rfl rfl rfl (Nat.le_of_ble_eq_true rfl) ?_
  repeat' (first | ((with_reducible refine D.nil ?_); refine AX.nilL ?_) | ((with_reducible refine D.load ?_); refine L.ldb U U U U U U ?_) | ((with_reducible refine D.move ?_); refine L.mv U U U ?_) | ((with_reducible refine D.assign ?_); refine L.asg U U U ?_) | ((with_reducible refine D.bin ?_); refine L.bn U U U U U ?_) | ((with_reducible refine D.call ?_); first | refine L.c2 (h1) U U U U ?_ | (apply L.cb2 (hc (by simpa using h)) [1] 0 rfl; rfl; rfl; rfl; rfl; rfl; rfl; (focus ((repeat' (first | exact trivial | refine And.intro ?_ ?_ | refine ⟨_, U, _, _, U, ?_, ?_⟩ | with_reducible exact rfl)); done)); rfl; rfl; rfl; rfl) | (apply L.cb2 (hs) [1] 0 rfl; rfl; rfl; rfl; rfl; rfl; rfl; (focus ((repeat' (first | exact trivial | refine And.intro ?_ ?_ | refine ⟨_, U, _, _, U, ?_, ?_⟩ | with_reducible exact rfl)); done)); rfl; rfl; rfl; rfl)) | ((with_reducible refine D.box ?_); refine L.bx U U U U ?_) | ((with_reducible refine D.ax ?_); refine L.mmB U U U U U ?_) | ((with_reducible refine D.aw ?_); first | refine K.sq (AW.regL ?_) | refine K.sq (K.sq ?_) | refine AW.regL ?_ | refine AW.condS U (fun h => ?_) (fun h => ?_) | refine AW.skip ?_ | refine AW.ret ?_) | with_reducible refine K.tN ?_ | with_reducible refine K.tR ?_ | with_reducible refine K.r1 (by with_unfolding_all rfl) (by with_unfolding_all rfl) ?_)
  · have e : ¬ t.err = 0 := by simpa using h
    rw [if_neg e]; simp [tupV, V.wk, V.wks]; rfl
  · have e : t.err = 0 := by simpa using h
    rw [if_pos e]; simp [tupV, V.wk, V.wks, e]
theorem closed_c (t : Tm) (ht : t.full < 549755813888) (hix : t.err = 0 → ∀ p ∈ t.vars 0, 0 ≤ p.1 ∧ p.1 < 9223372036854775808) : PC E 15 [.agg t.view] (.tup [.bool (if t.err = 0 then (((usesI t).length : Int) == 0) else false), .i t.err]) := by
  have h1 := uses_c t ht hix
  by_cases he : t.err = 0
  · rw [if_pos he, he] at h1
    rw [if_pos he, he]
    refine AC.mk Tryz.func15 rfl rfl rfl rfl rfl (Nat.le_of_ble_eq_true rfl) ?_
    repeat' (first | ((with_reducible refine D.nil ?_); refine AX.nilL ?_) | ((with_reducible refine D.load ?_); refine L.ldb U U U U U U ?_) | ((with_reducible refine D.move ?_); refine L.mv U U U ?_) | ((with_reducible refine D.assign ?_); refine L.asg U U U ?_) | ((with_reducible refine D.bin ?_); refine L.bn U U U U U ?_) | ((with_reducible refine D.call ?_); first | refine L.lnt U U U U ?_ | refine L.c2 (h1) U U U U ?_) | ((with_reducible refine D.extract ?_); refine L.ex U U U U ?_) | ((with_reducible refine D.box ?_); refine L.bx U U U U ?_) | ((with_reducible refine D.pick ?_); refine L.pk U U U U ?_) | ((with_reducible refine D.aw ?_); first | refine K.sq (AW.regL ?_) | refine AW.ret ?_) | with_reducible refine K.tN ?_ | with_reducible refine K.r1 (by with_unfolding_all rfl) (by with_unfolding_all rfl) ?_)
    all_goals first
      | rfl
      | (exfalso; simp at h; done)
  · rw [if_neg he] at h1
    rw [if_neg he]
    refine AC.mk Tryz.func15 rfl rfl rfl rfl rfl (Nat.le_of_ble_eq_true rfl) ?_
    repeat' (first | ((with_reducible refine D.nil ?_); refine AX.nilL ?_) | ((with_reducible refine D.load ?_); refine L.ldb U U U U U U ?_) | ((with_reducible refine D.move ?_); first | refine L.mv U U U ?_ | refine AX.sk U U ?_ | ((fail_if_success refine AX.wt U ?_); refine AX.gs U U (fun _ => trivial) (fun h => ?_) (fun h => ?_))) | ((with_reducible refine D.assign ?_); refine L.asg U U U ?_) | ((with_reducible refine D.bin ?_); first | refine L.bn U U U U U ?_ | refine AX.sk U U ?_) | ((with_reducible refine D.call ?_); first | refine L.lnt U U U U ?_ | refine L.c2 (h1) U U U U ?_ | refine AX.sk U U ?_) | ((with_reducible refine D.extract ?_); refine L.ex U U U U ?_) | ((with_reducible refine D.box ?_); refine L.bx U U U U ?_) | ((with_reducible refine D.pick ?_); refine L.pk U U U U ?_) | ((with_reducible refine D.aw ?_); first | refine K.sq (AW.regL ?_) | refine AW.ret ?_) | with_reducible refine K.tN ?_ | with_reducible refine K.r1 (by with_unfolding_all rfl) (by with_unfolding_all rfl) ?_)
    all_goals first
      | (simp [tupV, V.wk, V.wks, he]; done)
      | (exfalso; simp_all; done)
theorem rclosed_c (t : Tm) (ht : t.full < 549755813888) (hix : t.err = 0 → ∀ p ∈ t.vars 0, 0 ≤ p.1 ∧ p.1 < 9223372036854775808) : PC E 16 [.agg t.view] (.tup [.bool (if t.err = 0 then (((usesI t).length : Int) == 0) else false), .i t.err]) := by
  have h1 := ruses_c t ht hix
  by_cases he : t.err = 0
  · rw [if_pos he, he] at h1
    rw [if_pos he, he]
    refine AC.mk Tryz.func16 rfl rfl rfl rfl rfl (Nat.le_of_ble_eq_true rfl) ?_
    repeat' (first | ((with_reducible refine D.nil ?_); refine AX.nilL ?_) | ((with_reducible refine D.load ?_); refine L.ldb U U U U U U ?_) | ((with_reducible refine D.move ?_); refine L.mv U U U ?_) | ((with_reducible refine D.assign ?_); refine L.asg U U U ?_) | ((with_reducible refine D.bin ?_); refine L.bn U U U U U ?_) | ((with_reducible refine D.call ?_); first | refine L.lnt U U U U ?_ | refine L.c2 (h1) U U U U ?_) | ((with_reducible refine D.extract ?_); refine L.ex U U U U ?_) | ((with_reducible refine D.box ?_); refine L.bx U U U U ?_) | ((with_reducible refine D.pick ?_); refine L.pk U U U U ?_) | ((with_reducible refine D.aw ?_); first | refine K.sq (AW.regL ?_) | refine AW.ret ?_) | with_reducible refine K.tN ?_ | with_reducible refine K.r1 (by with_unfolding_all rfl) (by with_unfolding_all rfl) ?_)
    all_goals first
      | rfl
      | (exfalso; simp at h; done)
  · rw [if_neg he] at h1
    rw [if_neg he]
    refine AC.mk Tryz.func16 rfl rfl rfl rfl rfl (Nat.le_of_ble_eq_true rfl) ?_
    repeat' (first | ((with_reducible refine D.nil ?_); refine AX.nilL ?_) | ((with_reducible refine D.load ?_); refine L.ldb U U U U U U ?_) | ((with_reducible refine D.move ?_); first | refine L.mv U U U ?_ | refine AX.sk U U ?_ | ((fail_if_success refine AX.wt U ?_); refine AX.gs U U (fun _ => trivial) (fun h => ?_) (fun h => ?_))) | ((with_reducible refine D.assign ?_); refine L.asg U U U ?_) | ((with_reducible refine D.bin ?_); first | refine L.bn U U U U U ?_ | refine AX.sk U U ?_) | ((with_reducible refine D.call ?_); first | refine L.lnt U U U U ?_ | refine L.c2 (h1) U U U U ?_ | refine AX.sk U U ?_) | ((with_reducible refine D.extract ?_); refine L.ex U U U U ?_) | ((with_reducible refine D.box ?_); refine L.bx U U U U ?_) | ((with_reducible refine D.pick ?_); refine L.pk U U U U ?_) | ((with_reducible refine D.aw ?_); first | refine K.sq (AW.regL ?_) | refine AW.ret ?_) | with_reducible refine K.tN ?_ | with_reducible refine K.r1 (by with_unfolding_all rfl) (by with_unfolding_all rfl) ?_)
    all_goals first
      | (simp [tupV, V.wk, V.wks, he]; done)
      | (exfalso; simp_all; done)
end Go.Ab
namespace Go.Ab
open Go Go.Proofs
set_option maxRecDepth 100000
set_option maxHeartbeats 4000000
set_option linter.all false
theorem put_bd {t s : Tm} {a : Int} (he : t.err = 0) (hse : s.err = 0) (h : putErr t a s = 0) : (t.re (putG a s) 0).full ≤ 1200000000 := by
  have h1 := err_zero he
  have h2 := err_zero hse
  have h3 := put_full a s t h2.1 0 h1.1
  have h4 := terr_full he
  have h5 := terr_full hse
  have h6 := cnt_le a (t.vars 0)
  have h7 := t.vars_len 0
  have h8 : cnt a (t.vars 0) * s.full ≤ 4096 * 266240 := Nat.mul_le_mul (by omega) (by omega)
  omega
theorem rput_c (f : Tm) (at_ : Int) (s : Tm) (hf : f.full < 274877906944) (hs : s.full < 274877906944) : PC E 25 [.agg f.view, .i at_, .agg s.view] (.tup [.agg (if putErr f at_ s = 0 then f.re (putG at_ s) 0 else noTm).view, .i (putErr f at_ s)]) := by
  have h1 := checkTmR_c f (by omega)
  have h2 := checkTmR_c s (by omega)
  by_cases he : f.err = 0
  case neg =>
    have e : putErr f at_ s = f.err := by simp only [putErr]; rw [if_pos he]
    rw [e, if_neg he]
    refine AC.mk Tryz.func25 rfl rfl rfl rfl rfl (Nat.le_of_ble_eq_true rfl) ?_
    repeat' (first | ((with_reducible refine D.nil ?_); refine AX.nilL ?_) | ((with_reducible refine D.load ?_); refine L.ldb U U U U U U ?_) | ((with_reducible refine D.move ?_); refine L.mv U U U ?_) | ((with_reducible refine D.assign ?_); refine L.asg U U U ?_) | ((with_reducible refine D.bin ?_); refine L.bn U U U U U ?_) | ((with_reducible refine D.call ?_); refine L.c2 (h1) U U U U ?_) | ((with_reducible refine D.box ?_); refine L.bx U U U U ?_) | ((with_reducible refine D.alloc ?_); refine L.al U U U ?_) | ((with_reducible refine D.store ?_); refine L.st U U U U U U U U U ?_) | ((with_reducible refine D.ax ?_); refine L.bd U U U U U ?_) | ((with_reducible refine D.aw ?_); (fail_if_success with_reducible refine D.stopR (id := 4) ?_); (fail_if_success with_reducible refine D.stopS (id := 4) ?_); first | refine K.sq (AW.regL ?_) | refine K.sq (K.sq ?_) | refine AW.regL ?_ | refine AW.condS U (fun h => ?_) (fun h => ?_) | refine AW.skip ?_ | refine AW.ret ?_) | with_reducible refine K.tN ?_ | with_reducible refine K.tR ?_ | with_reducible refine K.r1 (by with_unfolding_all rfl) (by with_unfolding_all rfl) ?_)
    all_goals first
      | rfl
      | (exfalso; simp at h; exact he h)
  rw [he] at h1
  by_cases ha : 0 ≤ at_ ∧ at_ ≤ 4096
  case neg =>
    have e : putErr f at_ s = 1 := by simp only [putErr]; rw [if_neg (by simp [he]), if_pos ha]
    rw [e, if_neg (by decide)]
    refine AC.mk Tryz.func25 rfl rfl rfl rfl rfl (Nat.le_of_ble_eq_true rfl) ?_
    repeat' (first | ((with_reducible refine D.nil ?_); refine AX.nilL ?_) | ((with_reducible refine D.load ?_); refine L.ldb U U U U U U ?_) | ((with_reducible refine D.move ?_); first | refine L.mv U U U ?_ | refine AX.sk U U ?_ | ((fail_if_success refine AX.wt U ?_); refine AX.gs U U (fun _ => trivial) (fun h => ?_) (fun h => ?_))) | ((with_reducible refine D.assign ?_); refine L.asg U U U ?_) | ((with_reducible refine D.bin ?_); first | refine L.bn U U U U U ?_ | refine AX.sk U U ?_) | ((with_reducible refine D.call ?_); refine L.c2 (h1) U U U U ?_) | ((with_reducible refine D.box ?_); refine L.bx U U U U ?_) | ((with_reducible refine D.alloc ?_); refine L.al U U U ?_) | ((with_reducible refine D.store ?_); refine L.st U U U U U U U U U ?_) | ((with_reducible refine D.pick ?_); refine L.pk U U U U ?_) | ((with_reducible refine D.ax ?_); refine L.bd U U U U U ?_) | ((with_reducible refine D.aw ?_); (fail_if_success with_reducible refine D.stopR (id := 6) ?_); (fail_if_success with_reducible refine D.stopS (id := 6) ?_); first | refine K.sq (AW.regL ?_) | refine K.sq (K.sq ?_) | refine AW.regL ?_ | refine AW.condT U ?_ | refine AW.condF U ?_ | refine AW.condS U (fun h => ?_) (fun h => ?_) | refine AW.skip ?_ | refine AW.ret ?_) | with_reducible refine K.tN ?_ | with_reducible refine K.tR ?_ | with_reducible refine K.r1 (by with_unfolding_all rfl) (by with_unfolding_all rfl) ?_)
    all_goals first
      | rfl
      | (exfalso; simp at h; omega)
      | (exfalso; simp at *; omega)
  by_cases hse : s.err = 0
  case neg =>
    have e : putErr f at_ s = s.err := by simp only [putErr]; rw [if_neg (by simp [he]), if_neg (by simp; omega), if_pos hse]
    rw [e, if_neg hse]
    refine AC.mk Tryz.func25 rfl rfl rfl rfl rfl (Nat.le_of_ble_eq_true rfl) ?_
    repeat' (first | ((with_reducible refine D.nil ?_); refine AX.nilL ?_) | ((with_reducible refine D.load ?_); refine L.ldb U U U U U U ?_) | ((with_reducible refine D.move ?_); first | refine L.mv U U U ?_ | refine AX.sk U U ?_ | ((fail_if_success refine AX.wt U ?_); refine AX.gs U U (fun _ => trivial) (fun h => ?_) (fun h => ?_))) | ((with_reducible refine D.assign ?_); refine L.asg U U U ?_) | ((with_reducible refine D.bin ?_); first | refine L.bn U U U U U ?_ | refine AX.sk U U ?_) | ((with_reducible refine D.call ?_); first | refine L.c2 (h1) U U U U ?_ | refine L.c2 (h2) U U U U ?_) | ((with_reducible refine D.box ?_); refine L.bx U U U U ?_) | ((with_reducible refine D.alloc ?_); refine L.al U U U ?_) | ((with_reducible refine D.store ?_); refine L.st U U U U U U U U U ?_) | ((with_reducible refine D.pick ?_); refine L.pk U U U U ?_) | ((with_reducible refine D.ax ?_); refine L.bd U U U U U ?_) | ((with_reducible refine D.aw ?_); (fail_if_success with_reducible refine D.stopR (id := 5) ?_); (fail_if_success with_reducible refine D.stopS (id := 5) ?_); (fail_if_success with_reducible refine D.stopR (id := 9) ?_); (fail_if_success with_reducible refine D.stopS (id := 9) ?_); first | refine K.sq (AW.regL ?_) | refine K.sq (K.sq ?_) | refine AW.regL ?_ | refine AW.condT U ?_ | refine AW.condF U ?_ | refine AW.condS U (fun h => ?_) (fun h => ?_) | refine AW.skip ?_ | refine AW.ret ?_) | with_reducible refine K.tN ?_ | with_reducible refine K.tR ?_ | with_reducible refine K.r1 (by with_unfolding_all rfl) (by with_unfolding_all rfl) ?_)
    all_goals first
      | rfl
      | (exfalso; simp at h; omega)
      | (exfalso; simp at *; omega)
      | (exfalso; simp at h; exact hse h)
  rw [hse] at h2
  obtain ⟨hfs, hfz⟩ := err_zero he
  obtain ⟨hss, hsz⟩ := err_zero hse
  have hff := terr_full he
  have hsf := terr_full hse
  have h3 := rleast_c 536870912 (by omega) _ f (Nat.le_refl _) (by omega) hfs
  have h4 := rleast_c 536870912 (by omega) _ s (Nat.le_refl _) (by omega) hss
  rw [← near_least] at h3
  rw [← near_least] at h4
  by_cases hn : f.near = true ∧ s.near = true
  case neg =>
    have hn' : f.near = false ∨ s.near = false := by
      cases h5 : f.near with
      | false => exact .inl rfl
      | true => cases h6 : s.near with
        | false => exact .inr rfl
        | true => exact absurd ⟨h5, h6⟩ hn
    have e : putErr f at_ s = 1 := by simp only [putErr]; rw [if_neg (by simp [he]), if_neg (by simp; omega), if_neg (by simp [hse]), if_pos hn']
    rw [e, if_neg (by decide)]
    cases h5 : f.near with
    | false =>
      rw [h5] at h3
      refine AC.mk Tryz.func25 rfl rfl rfl rfl rfl (Nat.le_of_ble_eq_true rfl) ?_
      repeat' (first | ((with_reducible refine D.nil ?_); refine AX.nilL ?_) | ((with_reducible refine D.load ?_); first | refine L.ldb U U U U U U ?_ | refine AX.sk U U ?_) | ((with_reducible refine D.move ?_); first | refine L.mv U U U ?_ | refine AX.sk U U ?_ | ((fail_if_success refine AX.wt U ?_); refine AX.gs U U (fun _ => trivial) (fun h => ?_) (fun h => ?_))) | ((with_reducible refine D.assign ?_); refine L.asg U U U ?_) | ((with_reducible refine D.bin ?_); first | refine L.bn U U U U U ?_ | refine AX.sk U U ?_) | ((with_reducible refine D.call ?_); first | refine L.c2 (h1) U U U U ?_ | refine L.c2 (h2) U U U U ?_ | refine L.c2 (h3) U U U U ?_ | refine AX.sk U U ?_) | ((with_reducible refine D.box ?_); refine L.bx U U U U ?_) | ((with_reducible refine D.alloc ?_); refine L.al U U U ?_) | ((with_reducible refine D.store ?_); refine L.st U U U U U U U U U ?_) | ((with_reducible refine D.not ?_); first | refine L.nt U U U ?_ | refine AX.sk U U ?_) | ((with_reducible refine D.pick ?_); refine L.pk U U U U ?_) | ((with_reducible refine D.ax ?_); refine L.bd U U U U U ?_) | ((with_reducible refine D.aw ?_); (fail_if_success with_reducible refine D.stopR (id := 5) ?_); (fail_if_success with_reducible refine D.stopS (id := 5) ?_); first | refine K.sq (AW.regL ?_) | refine K.sq (K.sq ?_) | refine AW.regL ?_ | refine AW.condT U ?_ | refine AW.condF U ?_ | refine AW.condS U (fun h => ?_) (fun h => ?_) | refine AW.skip ?_ | refine AW.ret ?_) | with_reducible refine K.tN ?_ | with_reducible refine K.tR ?_ | with_reducible refine K.r1 (by with_unfolding_all rfl) (by with_unfolding_all rfl) ?_)
      all_goals first
        | rfl
        | (exfalso; simp at h; omega)
        | (exfalso; simp at *; omega)
    | true =>
      have h6 : s.near = false := hn'.resolve_left (by simp [h5])
      rw [h5] at h3
      rw [h6] at h4
      refine AC.mk Tryz.func25 rfl rfl rfl rfl rfl (Nat.le_of_ble_eq_true rfl) ?_
      repeat' (first | ((with_reducible refine D.nil ?_); refine AX.nilL ?_) | ((with_reducible refine D.load ?_); refine L.ldb U U U U U U ?_) | ((with_reducible refine D.move ?_); first | refine L.mv U U U ?_ | refine AX.sk U U ?_ | ((fail_if_success refine AX.wt U ?_); refine AX.gs U U (fun _ => trivial) (fun h => ?_) (fun h => ?_))) | ((with_reducible refine D.assign ?_); refine L.asg U U U ?_) | ((with_reducible refine D.bin ?_); first | refine L.bn U U U U U ?_ | refine AX.sk U U ?_) | ((with_reducible refine D.call ?_); first | refine L.c2 (h1) U U U U ?_ | refine L.c2 (h2) U U U U ?_ | refine L.c2 (h3) U U U U ?_ | refine L.c2 (h4) U U U U ?_) | ((with_reducible refine D.box ?_); refine L.bx U U U U ?_) | ((with_reducible refine D.alloc ?_); refine L.al U U U ?_) | ((with_reducible refine D.store ?_); refine L.st U U U U U U U U U ?_) | ((with_reducible refine D.not ?_); refine L.nt U U U ?_) | ((with_reducible refine D.pick ?_); refine L.pk U U U U ?_) | ((with_reducible refine D.ax ?_); refine L.bd U U U U U ?_) | ((with_reducible refine D.aw ?_); (fail_if_success with_reducible refine D.stopR (id := 5) ?_); (fail_if_success with_reducible refine D.stopS (id := 5) ?_); first | refine K.sq (AW.regL ?_) | refine K.sq (K.sq ?_) | refine AW.regL ?_ | refine AW.condT U ?_ | refine AW.condF U ?_ | refine AW.condS U (fun h => ?_) (fun h => ?_) | refine AW.skip ?_ | refine AW.ret ?_) | with_reducible refine K.tN ?_ | with_reducible refine K.tR ?_ | with_reducible refine K.r1 (by with_unfolding_all rfl) (by with_unfolding_all rfl) ?_)
      all_goals first
        | rfl
        | (exfalso; simp at h; omega)
        | (exfalso; simp at *; omega)
  obtain ⟨hn1, hn2⟩ := hn
  rw [hn1] at h3
  rw [hn2] at h4
  have h5 := countTm_c _ f (Nat.le_refl _) (by omega)
  have h6 := rtimes_c _ f at_ (Nat.le_refl _) (by omega) (by omega) (by omega) hfs
  have h7 := countTm_c _ s (Nat.le_refl _) (by omega)
  have htl := timesT_le f at_
  have hsp := s.size_pos
  have hm := mul_bd (timesT at_ f) (s.size - 1) (by omega) (by omega)
  have hm' : -9223372036854775808 ≤ (timesT at_ f : Int) * (s.size - 1) ∧ (timesT at_ f : Int) * (s.size - 1) ≤ 9223372036854775807 := by omega
  have htc := times_cnt f at_ 0 hfs
  rw [Int.add_zero] at htc
  have ee : putErr f at_ s = if (f.size : Int) + timesT at_ f * (s.size - 1) > 4096 then 4 else 0 := by
    simp only [putErr, htc]
    rw [if_neg (by simp [he]), if_neg (by simp; omega), if_neg (by simp [hse]), if_neg (by simp [hn1, hn2])]
  have h8 := rin_c at_ s (by omega) hss (by omega) (fun p hp => ⟨s.vars_nonneg hss 0 p hp, by have := near_all hn2 p hp; omega⟩) _ f 0 (Nat.le_refl _) (by omega) (by omega) (by omega) hfs (fun p hp => ⟨f.vars_nonneg hfs 0 p hp, by have := near_all hn1 p hp; omega⟩)
  by_cases hz : (f.size : Int) + timesT at_ f * (s.size - 1) > 4096
  · rw [if_pos hz] at ee
    rw [ee, if_neg (by decide)]
    clear h8
    refine AC.mk Tryz.func25 rfl rfl rfl rfl rfl (Nat.le_of_ble_eq_true rfl) ?_
    repeat' (first | ((with_reducible refine D.nil ?_); first | refine AX.nilL ?_ | refine AX.nilD (by kernel_rfl) ?_) | ((with_reducible refine D.load ?_); refine L.ldb U U U U U U ?_) | ((with_reducible refine D.move ?_); first | refine L.mv U U U ?_ | refine AX.sk U U ?_ | ((fail_if_success refine AX.wt U ?_); refine AX.gs U U (fun _ => trivial) (fun h => ?_) (fun h => ?_))) | ((with_reducible refine D.assign ?_); refine L.asg U U U ?_) | ((with_reducible refine D.bin ?_); first | refine L.ad U U U U (by omega) ?_ | refine L.sb U U U U (by omega) ?_ | refine L.ml U U U U (by first | omega | assumption) ?_ | refine L.bn U U U U U ?_ | refine AX.sk U U ?_) | ((with_reducible refine D.call ?_); first | refine L.c2 (h1) U U U U ?_ | refine L.c2 (h2) U U U U ?_ | refine L.c2 (h3) U U U U ?_ | refine L.c2 (h4) U U U U ?_ | refine L.c2 (h5) U U U U ?_ | refine L.c2 (h6) U U U U ?_ | refine L.c2 (h7) U U U U ?_) | ((with_reducible refine D.box ?_); refine L.bx U U U U ?_) | ((with_reducible refine D.alloc ?_); refine L.al U U U ?_) | ((with_reducible refine D.store ?_); refine L.st U U U U U U U U U ?_) | ((with_reducible refine D.not ?_); refine L.nt U U U ?_) | ((with_reducible refine D.pick ?_); refine L.pk U U U U ?_) | ((with_reducible refine D.ax ?_); refine L.bd U U U U U ?_) | ((with_reducible refine D.aw ?_); (fail_if_success with_reducible refine D.stopR (id := 5) ?_); (fail_if_success with_reducible refine D.stopS (id := 5) ?_); (fail_if_success with_reducible refine D.stopR (id := 13) ?_); (fail_if_success with_reducible refine D.stopS (id := 13) ?_); first | refine K.sq (AW.regL ?_) | refine K.sq (K.sq ?_) | refine AW.regL ?_ | refine AW.regD mixed (by kernel_rfl) ?_ | refine AW.condT U ?_ | refine AW.condF U ?_ | refine AW.condS U (fun h => ?_) (fun h => ?_) | refine AW.skip ?_ | refine AW.ret ?_) | with_reducible refine K.tN ?_ | with_reducible refine K.tR ?_ | with_reducible refine K.r1 (by with_unfolding_all rfl) (by with_unfolding_all rfl) ?_)
    all_goals first
      | rfl
      | (exfalso; simp at h; omega)
      | (exfalso; simp at *; omega)
  · rw [if_neg hz] at ee
    have h9 := copyTm_c _ (f.re (putG at_ s) 0) (Nat.le_refl _) (by have := put_bd he hse ee; omega)
    rw [ee, if_pos rfl]
    refine AC.mk Tryz.func25 rfl rfl rfl rfl rfl (Nat.le_of_ble_eq_true rfl) ?_
    repeat' (first | ((with_reducible refine D.nil ?_); first | refine AX.nilL ?_ | refine AX.nilD (by kernel_rfl) ?_) | ((with_reducible refine D.load ?_); refine L.ldb U U U U U U ?_) | ((with_reducible refine D.move ?_); first | refine L.mv U U U ?_ | refine AX.sk U U ?_ | ((fail_if_success refine AX.wt U ?_); refine AX.gs U U (fun _ => trivial) (fun h => ?_) (fun h => ?_))) | ((with_reducible refine D.assign ?_); refine L.asg U U U ?_) | ((with_reducible refine D.bin ?_); first | refine L.ad U U U U (by omega) ?_ | refine L.sb U U U U (by omega) ?_ | refine L.ml U U U U (by first | omega | assumption) ?_ | refine L.bn U U U U U ?_ | refine AX.sk U U ?_) | ((with_reducible refine D.call ?_); first | refine L.c2 (h1) U U U U ?_ | refine L.c2 (h2) U U U U ?_ | refine L.c2 (h3) U U U U ?_ | refine L.c2 (h4) U U U U ?_ | refine L.c2 (h5) U U U U ?_ | refine L.c2 (h6) U U U U ?_ | refine L.c2 (h7) U U U U ?_ | refine L.c2 (h8) U U U U ?_ | refine L.c2 (h9) U U U U ?_) | ((with_reducible refine D.box ?_); refine L.bx U U U U ?_) | ((with_reducible refine D.alloc ?_); refine L.al U U U ?_) | ((with_reducible refine D.store ?_); refine L.st U U U U U U U U U ?_) | ((with_reducible refine D.not ?_); refine L.nt U U U ?_) | ((with_reducible refine D.pick ?_); refine L.pk U U U U ?_) | ((with_reducible refine D.aw ?_); (fail_if_success with_reducible refine D.stopR (id := 5) ?_); (fail_if_success with_reducible refine D.stopS (id := 5) ?_); (fail_if_success with_reducible refine D.stopR (id := 12) ?_); (fail_if_success with_reducible refine D.stopS (id := 12) ?_); first | refine K.sq (AW.regL ?_) | refine K.sq (K.sq ?_) | refine AW.regL ?_ | refine AW.regD mixed (by kernel_rfl) ?_ | refine AW.condT U ?_ | refine AW.condF U ?_ | refine AW.condS U (fun h => ?_) (fun h => ?_) | refine AW.skip ?_ | refine AW.ret ?_) | with_reducible refine K.tN ?_ | with_reducible refine K.r1 (by with_unfolding_all rfl) (by with_unfolding_all rfl) ?_)
    all_goals first
      | rfl
      | (exfalso; simp at h; omega)
      | (exfalso; simp at *; omega)
theorem put_low {t : Tm} (a : Int) (s : Tm) (hc : cnt a (t.vars 0) = 0) : t.re (putG a s) 0 = t.re (liftG (a + 1) (-1)) 0 := by
  refine re_congr t 0 fun p hp => ?_
  have h0 := cnt_zero hc p hp
  rw [putG_eq, liftG_eq, if_neg h0]
  by_cases h1 : p.1 - p.2 > a
  · rw [if_pos h1, if_pos (by omega)]; congr 1
  · rw [if_neg h1, if_neg (by omega)]
theorem rlower_c (t : Tm) (a : Int) (ht : t.full < 274877906944) (hix : t.err = 0 → ∀ p ∈ t.vars 0, 0 ≤ p.1 ∧ p.1 < 9223372036854775808) :
    PC E 22 [.agg t.view, .i a] (.tup [.agg (if lowerErr t a = 0 then t.re (putG a noTm) 0 else noTm).view, .i (lowerErr t a)]) := by
  have h1 := checkTmR_c t (by omega)
  by_cases he : t.err = 0
  case neg =>
    have e : lowerErr t a = t.err := by simp only [lowerErr]; rw [if_pos he]
    rw [e, if_neg he]
    refine AC.mk Tryz.func22 rfl rfl rfl rfl rfl (Nat.le_of_ble_eq_true rfl) ?_
    repeat' (first | ((with_reducible refine D.nil ?_); refine AX.nilL ?_) | ((with_reducible refine D.load ?_); refine L.ldb U U U U U U ?_) | ((with_reducible refine D.move ?_); refine L.mv U U U ?_) | ((with_reducible refine D.assign ?_); refine L.asg U U U ?_) | ((with_reducible refine D.bin ?_); refine L.bn U U U U U ?_) | ((with_reducible refine D.call ?_); refine L.c2 (h1) U U U U ?_) | ((with_reducible refine D.box ?_); refine L.bx U U U U ?_) | ((with_reducible refine D.alloc ?_); refine L.al U U U ?_) | ((with_reducible refine D.store ?_); refine L.st U U U U U U U U U ?_) | ((with_reducible refine D.ax ?_); refine L.bd U U U U U ?_) | ((with_reducible refine D.aw ?_); (fail_if_success with_reducible refine D.stopR (id := 4) ?_); (fail_if_success with_reducible refine D.stopS (id := 4) ?_); first | refine K.sq (AW.regL ?_) | refine K.sq (K.sq ?_) | refine AW.regL ?_ | refine AW.condS U (fun h => ?_) (fun h => ?_) | refine AW.skip ?_ | refine AW.ret ?_) | with_reducible refine K.tN ?_ | with_reducible refine K.tR ?_ | with_reducible refine K.r1 (by with_unfolding_all rfl) (by with_unfolding_all rfl) ?_)
    all_goals first
      | rfl
      | (exfalso; simp at h; exact he h)
  rw [he] at h1
  by_cases ha : 0 ≤ a ∧ a ≤ 4096
  case neg =>
    have e : lowerErr t a = 1 := by simp only [lowerErr]; rw [if_neg (by simp [he]), if_pos ha]
    rw [e, if_neg (by decide)]
    refine AC.mk Tryz.func22 rfl rfl rfl rfl rfl (Nat.le_of_ble_eq_true rfl) ?_
    repeat' (first | ((with_reducible refine D.nil ?_); refine AX.nilL ?_) | ((with_reducible refine D.load ?_); refine L.ldb U U U U U U ?_) | ((with_reducible refine D.move ?_); first | refine L.mv U U U ?_ | refine AX.sk U U ?_ | ((fail_if_success refine AX.wt U ?_); refine AX.gs U U (fun _ => trivial) (fun h => ?_) (fun h => ?_))) | ((with_reducible refine D.assign ?_); refine L.asg U U U ?_) | ((with_reducible refine D.bin ?_); first | refine L.bn U U U U U ?_ | refine AX.sk U U ?_) | ((with_reducible refine D.call ?_); refine L.c2 (h1) U U U U ?_) | ((with_reducible refine D.box ?_); refine L.bx U U U U ?_) | ((with_reducible refine D.alloc ?_); refine L.al U U U ?_) | ((with_reducible refine D.store ?_); refine L.st U U U U U U U U U ?_) | ((with_reducible refine D.pick ?_); refine L.pk U U U U ?_) | ((with_reducible refine D.ax ?_); refine L.bd U U U U U ?_) | ((with_reducible refine D.aw ?_); (fail_if_success with_reducible refine D.stopR (id := 6) ?_); (fail_if_success with_reducible refine D.stopS (id := 6) ?_); first | refine K.sq (AW.regL ?_) | refine K.sq (K.sq ?_) | refine AW.regL ?_ | refine AW.condT U ?_ | refine AW.condF U ?_ | refine AW.condS U (fun h => ?_) (fun h => ?_) | refine AW.skip ?_ | refine AW.ret ?_) | with_reducible refine K.tN ?_ | with_reducible refine K.tR ?_ | with_reducible refine K.r1 (by with_unfolding_all rfl) (by with_unfolding_all rfl) ?_)
    all_goals first
      | rfl
      | (exfalso; simp at h; omega)
      | (exfalso; simp at *; omega)
  obtain ⟨hs, hz⟩ := err_zero he
  have hff := terr_full he
  have h2 := rhas_c _ t a (Nat.le_refl _) (by omega) (by omega) (by omega) hs
  have hp := timesT_pos (at_ := a) hs
  by_cases hc : cnt a (t.vars 0) = 0
  case neg =>
    have e : lowerErr t a = 6 := by simp only [lowerErr]; rw [if_neg (by simp [he]), if_neg (by simp; omega), if_pos (by omega)]
    rw [e, if_neg (by decide)]
    rw [decide_eq_true (hp.2 hc)] at h2
    refine AC.mk Tryz.func22 rfl rfl rfl rfl rfl (Nat.le_of_ble_eq_true rfl) ?_
    repeat' (first | ((with_reducible refine D.nil ?_); refine AX.nilL ?_) | ((with_reducible refine D.load ?_); refine L.ldb U U U U U U ?_) | ((with_reducible refine D.move ?_); first | refine L.mv U U U ?_ | refine AX.sk U U ?_ | ((fail_if_success refine AX.wt U ?_); refine AX.gs U U (fun _ => trivial) (fun h => ?_) (fun h => ?_))) | ((with_reducible refine D.assign ?_); refine L.asg U U U ?_) | ((with_reducible refine D.bin ?_); first | refine L.bn U U U U U ?_ | refine AX.sk U U ?_) | ((with_reducible refine D.call ?_); first | refine L.c2 (h1) U U U U ?_ | refine L.c2 (h2) U U U U ?_) | ((with_reducible refine D.box ?_); refine L.bx U U U U ?_) | ((with_reducible refine D.alloc ?_); refine L.al U U U ?_) | ((with_reducible refine D.store ?_); refine L.st U U U U U U U U U ?_) | ((with_reducible refine D.pick ?_); refine L.pk U U U U ?_) | ((with_reducible refine D.ax ?_); refine L.bd U U U U U ?_) | ((with_reducible refine D.aw ?_); (fail_if_success with_reducible refine D.stopR (id := 8) ?_); (fail_if_success with_reducible refine D.stopS (id := 8) ?_); first | refine K.sq (AW.regL ?_) | refine K.sq (K.sq ?_) | refine AW.regL ?_ | refine AW.condT U ?_ | refine AW.condF U ?_ | refine AW.condS U (fun h => ?_) (fun h => ?_) | refine AW.skip ?_ | refine AW.ret ?_) | with_reducible refine K.tN ?_ | with_reducible refine K.tR ?_ | with_reducible refine K.r1 (by with_unfolding_all rfl) (by with_unfolding_all rfl) ?_)
    all_goals first
      | rfl
      | (exfalso; simp at h; omega)
      | (exfalso; simp at *; omega)
  have e : lowerErr t a = 0 := by simp only [lowerErr]; rw [if_neg (by simp [he]), if_neg (by simp; omega), if_neg (by omega)]
  rw [e, if_pos rfl, put_low a noTm hc]
  rw [decide_eq_false (fun h => (hp.1 h) hc)] at h2
  have h3 := rup_w (-1) (by omega) _ t (a + 1) (Nat.le_refl _) (by omega) (by omega) (by omega) hs fun p hp => by have := hix he p hp; omega
  have h4 := copyTm_c _ (t.re (liftG (a + 1) (-1)) 0) (Nat.le_refl _) (by have := put_full a t t hs 0 hs; rw [put_low a t hc, hc] at this; omega)
  refine AC.mk Tryz.func22 rfl rfl rfl rfl rfl (Nat.le_of_ble_eq_true rfl) ?_
  repeat' (first | ((with_reducible refine D.nil ?_); refine AX.nilL ?_) | ((with_reducible refine D.load ?_); refine L.ldb U U U U U U ?_) | ((with_reducible refine D.move ?_); first | refine L.mv U U U ?_ | refine AX.sk U U ?_ | ((fail_if_success refine AX.wt U ?_); refine AX.gs U U (fun _ => trivial) (fun h => ?_) (fun h => ?_))) | ((with_reducible refine D.assign ?_); refine L.asg U U U ?_) | ((with_reducible refine D.bin ?_); first | refine L.ad U U U U (by omega) ?_ | refine L.bn U U U U U ?_ | refine AX.sk U U ?_) | ((with_reducible refine D.call ?_); first | refine L.c2 (h1) U U U U ?_ | refine L.c2 (h2) U U U U ?_ | refine L.c2 (h3) U U U U ?_ | refine L.c2 (h4) U U U U ?_) | ((with_reducible refine D.box ?_); refine L.bx U U U U ?_) | ((with_reducible refine D.alloc ?_); refine L.al U U U ?_) | ((with_reducible refine D.store ?_); refine L.st U U U U U U U U U ?_) | ((with_reducible refine D.pick ?_); refine L.pk U U U U ?_) | ((with_reducible refine D.aw ?_); (fail_if_success with_reducible refine D.stopR (id := 5) ?_); (fail_if_success with_reducible refine D.stopS (id := 5) ?_); (fail_if_success with_reducible refine D.stopR (id := 7) ?_); (fail_if_success with_reducible refine D.stopS (id := 7) ?_); first | refine K.sq (AW.regL ?_) | refine K.sq (K.sq ?_) | refine AW.regL ?_ | refine AW.condT U ?_ | refine AW.condF U ?_ | refine AW.condS U (fun h => ?_) (fun h => ?_) | refine AW.skip ?_ | refine AW.ret ?_) | with_reducible refine K.tN ?_ | with_reducible refine K.r1 (by with_unfolding_all rfl) (by with_unfolding_all rfl) ?_)
  all_goals first
    | rfl
    | (exfalso; simp at h; omega)
    | (exfalso; simp at *; omega)
theorem ints03_c (l : List Int) (hl : l.length < 1099511627776) : PC E 17 [.s .int l, .s .int l] (.bool true) := by
  refine AC.mk Tryz.func17 rfl rfl rfl rfl rfl (Nat.le_of_ble_eq_true rfl) ?_
  repeat' (first | ((with_reducible refine D.nil ?_); refine AX.nilL ?_) | ((with_reducible refine D.move ?_); refine L.mv U U U ?_) | ((with_reducible refine D.assign ?_); refine L.asg U U U ?_) | ((with_reducible refine D.bin ?_); refine L.bn U U U U U ?_) | ((with_reducible refine D.call ?_); refine L.lnt U U U U ?_) | ((with_reducible refine D.aw ?_); first | refine K.sq (AW.regL ?_) | refine K.sq (K.sq ?_) | refine AW.regL ?_ | refine AW.condS U (fun h => ?_) (fun h => ?_) | refine AW.skip ?_ | refine AW.ret ?_) | with_reducible refine K.tN ?_ | with_reducible refine K.tR ?_ | with_reducible refine K.r1 (by with_unfolding_all rfl) (by with_unfolding_all rfl) ?_)
  all_goals first
    | (exfalso; simp at h; done)
    | skip
  refine AW.range l.length (fun m => True) (fun m => ([(0, .s .int l), (1, .s .int l), (11, .s .int l), (12, .i l.length), (13, .i m)], ⟨0, []⟩))
    (by omega) (fun m => rfl) (fun m => rfl) U trivial (Weak.mk [] _ _ _ U U U U (by (repeat' (first | exact trivial | refine And.intro ?_ ?_ | refine ⟨_, U, _, U, ?_⟩ | exact VLe.refl _)); done) (by (repeat' (first | exact trivial)); done)) ?_ ?_
  · intro m hm _
    repeat' (first | ((with_reducible refine D.nil ?_); first | refine AX.nilL ?_ | refine AX.nilD (by kernel_rfl) ?_) | ((with_reducible refine D.load ?_); refine L.lda U U U U U ?_) | ((with_reducible refine D.move ?_); refine L.mv U U U ?_) | ((with_reducible refine D.assign ?_); refine L.asg U U U ?_) | ((with_reducible refine D.bin ?_); refine L.bn U U U U U ?_) | ((with_reducible refine D.indexAddr ?_); refine L.ixt _ U U U U U U U (by assumption) ?_) | ((with_reducible refine D.aw ?_); first | refine K.sq (AW.regL ?_) | refine K.sq (AW.regD mixed (by kernel_rfl) ?_) | refine AW.condS U (fun h => ?_) (fun h => ?_) | refine AW.skip ?_ | refine AW.ret ?_) | with_reducible refine K.tN ?_ | with_reducible refine K.bN ?_ | with_reducible refine K.tR ?_ | with_reducible refine K.bR ?_ | with_reducible refine K.gR ?_ | with_reducible refine K.r1 (by with_unfolding_all rfl) (by with_unfolding_all rfl) ?_)
    · exfalso; simp at h
    · exact ⟨rfl, trivial, (Weak.mk [] _ _ _ U U U U (by (repeat' (first | exact trivial | refine And.intro ?_ ?_ | refine ⟨_, U, _, U, ?_⟩ | exact VLe.refl _)); done) (by (repeat' (first | exact trivial)); done))⟩
  · intro _
    repeat' (first | ((with_reducible refine D.nil ?_); refine AX.nilL ?_) | ((with_reducible refine D.assign ?_); refine L.asg U U U ?_) | ((with_reducible refine D.aw ?_); first | refine K.sq (AW.regL ?_) | refine AW.ret ?_) | with_reducible refine K.tN ?_ | with_reducible refine K.r1 (by with_unfolding_all rfl) (by with_unfolding_all rfl) ?_)
    rfl
theorem nodes03_c (t : Tm) : PC E 57 [.agg t.view] (.i (t.cn 20000)) := by
  have h1 := cntTm_c _ t 20000 (Nat.le_refl _) (by omega)
  refine AC.mk Tryz.func57 rfl rfl rfl rfl rfl (Nat.le_of_ble_eq_true rfl) ?_
  repeat' (first | ((with_reducible refine D.nil ?_); refine AX.nilL ?_) | ((with_reducible refine D.load ?_); refine L.ldb U U U U U U ?_) | ((with_reducible refine D.assign ?_); refine L.asg U U U ?_) | ((with_reducible refine D.call ?_); refine L.c2 (h1) U U U U ?_) | ((with_reducible refine D.box ?_); refine L.bx U U U U ?_) | ((with_reducible refine D.aw ?_); first | refine K.sq (AW.regL ?_) | refine AW.ret ?_) | with_reducible refine K.tN ?_ | with_reducible refine K.r1 (by with_unfolding_all rfl) (by with_unfolding_all rfl) ?_)
  rfl
theorem few03_c (x y : Tm) : PC E 8 [.s .tm [x, y]] (.bool (decide (x.cn 20000 + y.cn 20000 < 1500))) := by
  have hx := nodes03_c x
  have hy := nodes03_c y
  have bx := x.cn_bd 20000
  have byy := y.cn_bd 20000
  refine AC.mk Tryz.func8 rfl rfl rfl rfl rfl (Nat.le_of_ble_eq_true rfl) ?_
  repeat' (first | ((with_reducible refine D.nil ?_); refine AX.nilL ?_) | ((with_reducible refine D.move ?_); refine L.mv U U U ?_) | ((with_reducible refine D.assign ?_); refine L.asg U U U ?_) | ((with_reducible refine D.call ?_); refine L.lnt U U U U ?_) | ((with_reducible refine D.aw ?_); first | refine K.sq (AW.regL ?_) | refine K.sq (K.sq ?_) | refine AW.regL ?_) | with_reducible refine K.tN ?_)
  refine AW.range 2 (fun m => True) (fun m => ([(3, .i (if m = 0 then 0 else if m = 1 then x.cn 20000 else x.cn 20000 + y.cn 20000)), (6, .s .tm [x, y]), (7, .i 2), (8, .i m)], ⟨0, []⟩))
    (by omega) (fun m => rfl) (fun m => rfl) U trivial (Weak.mk [] _ _ _ U U U U (by (repeat' (first | exact trivial | refine And.intro ?_ ?_ | refine ⟨_, U, _, U, ?_⟩ | exact VLe.refl _)); done) (by (repeat' (first | exact trivial)); done)) ?_ ?_
  · intro m hm _
    match m, hm with
    | 0, _ =>
      repeat' (first | ((with_reducible refine D.nil ?_); refine AX.nilL ?_) | ((with_reducible refine D.load ?_); first | refine L.ldb U U U U U U ?_ | refine L.lda U U U U U ?_) | ((with_reducible refine D.move ?_); refine L.mv U U U ?_) | ((with_reducible refine D.assign ?_); refine L.asg U U U ?_) | ((with_reducible refine D.bin ?_); refine L.ad U U U U (by omega) ?_) | ((with_reducible refine D.call ?_); refine L.c2 (hx) U U U U ?_) | ((with_reducible refine D.alloc ?_); refine L.al U U U ?_) | ((with_reducible refine D.store ?_); refine L.st U U U U U U U U U ?_) | ((with_reducible refine D.indexAddr ?_); refine L.ixt _ U U U U U U U (by assumption) ?_) | ((with_reducible refine D.aw ?_); first | refine K.sq (AW.regL ?_) | refine AW.regL ?_) | with_reducible refine K.tN ?_ | with_reducible refine K.bN ?_)
      refine ⟨rfl, trivial, ?_⟩
      exact (Weak.mk [] _ _ _ U U U U (by (repeat' (first | exact trivial | refine And.intro ?_ ?_ | refine ⟨_, U, _, U, ?_⟩ | exact VLe.refl _ | exact VLe.of_eq (by simp [Sto.upd, Int.zero_add]))); done) (by (repeat' (first | exact trivial)); done))
    | 1, _ =>
      repeat' (first | ((with_reducible refine D.nil ?_); refine AX.nilL ?_) | ((with_reducible refine D.load ?_); first | refine L.ldb U U U U U U ?_ | refine L.lda U U U U U ?_) | ((with_reducible refine D.move ?_); refine L.mv U U U ?_) | ((with_reducible refine D.assign ?_); refine L.asg U U U ?_) | ((with_reducible refine D.bin ?_); refine L.ad U U U U (by omega) ?_) | ((with_reducible refine D.call ?_); refine L.c2 (hy) U U U U ?_) | ((with_reducible refine D.alloc ?_); refine L.al U U U ?_) | ((with_reducible refine D.store ?_); refine L.st U U U U U U U U U ?_) | ((with_reducible refine D.indexAddr ?_); refine L.ixt _ U U U U U U U (by assumption) ?_) | ((with_reducible refine D.aw ?_); first | refine K.sq (AW.regL ?_) | refine AW.regL ?_) | with_reducible refine K.tN ?_ | with_reducible refine K.bN ?_)
      exact ⟨rfl, trivial, (Weak.mk [] _ _ _ U U U U (by (repeat' (first | exact trivial | refine And.intro ?_ ?_ | refine ⟨_, U, _, U, ?_⟩ | exact VLe.refl _)); done) (by (repeat' (first | exact trivial)); done))⟩
  · intro _
    repeat' (first | ((with_reducible refine D.nil ?_); refine AX.nilL ?_) | ((with_reducible refine D.move ?_); refine L.mv U U U ?_) | ((with_reducible refine D.assign ?_); refine L.asg U U U ?_) | ((with_reducible refine D.bin ?_); refine L.bn U U U U U ?_) | ((with_reducible refine D.aw ?_); first | refine K.sq (AW.regL ?_) | refine AW.ret ?_) | with_reducible refine K.tN ?_ | with_reducible refine K.r1 (by with_unfolding_all rfl) (by with_unfolding_all rfl) ?_)
    rfl
end Go.Ab
namespace Go.Ab
open Go Go.Proofs
set_option maxRecDepth 100000
set_option maxHeartbeats 4000000
set_option linter.all false
theorem wf_vars (t : Tm) : t.wf → ∀ b, ∀ p ∈ t.vars b, p.1 < 9223372036854775808 := by
  induction t using Tm.ind with
  | h t ih =>
    intro hw b p hp
    obtain ⟨h1, h2⟩ := (Tm.wf_iff t).1 hw
    rw [Tm.vars_eq, List.mem_append] at hp
    rcases hp with hp | hp
    · split at hp
      · simp only [List.mem_singleton] at hp; subst hp; simp only; omega
      · cases hp
    · obtain ⟨x, hx, hq⟩ := List.mem_flatMap.1 hp
      exact ih x hx (h2 x hx) _ p hq
/-- A term as the laws take it. -/
def OkT (z : Tm) : Prop := z.full < 1000000 ∧ (z.err = 0 → ∀ p ∈ z.vars 0, 0 ≤ p.1 ∧ p.1 < 9223372036854775808)
theorem okT_raw {z : Tm} (h : z.wf) (hf : z.full < 1000000) : OkT z := ⟨hf, fun he p hp => ⟨z.vars_nonneg (err_zero he).1 0 p hp, wf_vars z h 0 p hp⟩⟩
theorem okT_mk {n : Nat} {g : List Ty} {t : Ty} {x : Tm} (h : Mk n g t x) (hg : smalls g) (ht : t.small) (hn : n ≤ 5) (hl : g.length ≤ 1000) (hf : x.full < 1000000) : OkT x := ⟨hf, fun he p hp => by
  have h1 := mk_fine h hg ht hn hl
  exact ⟨x.vars_nonneg (err_zero he).1 0 p hp, by have := h1.2 p hp; omega⟩⟩
theorem bd_lift (z : Tm) (a b : Int) : (if liftErr z a b = 0 then z.re (liftG a b) 0 else noTm).full < 1099511627776 := by
  by_cases h : liftErr z a b = 0
  · rw [if_pos h]
    have he : z.err = 0 := by simp only [liftErr] at h; split at h <;> rename_i h1 <;> omega
    have h1 := lift_full a b z 0 (err_zero he).1
    have h2 := terr_full he
    omega
  · rw [if_neg h]; decide
theorem bd_lower (z : Tm) (a : Int) : (if lowerErr z a = 0 then z.re (putG a noTm) 0 else noTm).full < 1099511627776 := by
  by_cases h : lowerErr z a = 0
  · rw [if_pos h]
    have he : z.err = 0 := by simp only [lowerErr] at h; split at h <;> rename_i h1 <;> omega
    have hc : cnt a (z.vars 0) = 0 := by
      simp only [lowerErr] at h
      rw [if_neg (fun hc => hc he)] at h
      split at h
      · omega
      · split at h <;> omega
    have hs := (err_zero he).1
    have h1 := put_full a z z hs 0 hs
    rw [put_any (s' := noTm) (s := z) hc, hc] at h1
    have h2 := terr_full he
    omega
  · rw [if_neg h]; decide
theorem bd_put (z : Tm) (a : Int) (w : Tm) : (if putErr z a w = 0 then z.re (putG a w) 0 else noTm).full < 1099511627776 := by
  by_cases h : putErr z a w = 0
  · rw [if_pos h]
    have he : z.err = 0 := by simp only [putErr] at h; split at h <;> rename_i h1 <;> omega
    have hw : w.err = 0 := by
      simp only [putErr] at h
      rw [if_neg (fun hc => hc he)] at h
      split at h
      · omega
      · split at h <;> omega
    have := put_bd he hw h
    omega
  · rw [if_neg h]; decide
theorem substDoes_c (l : List Int) (a b : Tm) (fr by_ : Int) (ha : a.wf) (hb : b.wf) : PC E 3 [.s .int l, .agg a.view, .agg b.view, .i fr, .i by_] (.bool true) := by
  have hfew := few03_c a b
  by_cases hl : l.length ≤ 500
  case neg =>
    have hf := few_f l hl
    refine AC.mk Tryz.func3 rfl rfl rfl rfl rfl (Nat.le_of_ble_eq_true rfl) ?_
    repeat' (first | ((with_reducible refine D.nil ?_); refine AX.nilL ?_) | ((with_reducible refine D.load ?_); refine AX.sk U U ?_) | ((with_reducible refine D.move ?_); refine L.mv U U U ?_) | ((with_reducible refine D.assign ?_); refine L.asg U U U ?_) | ((with_reducible refine D.call ?_); first | refine L.c2 (sane03_c) U U U U ?_ | refine L.c2 (hf) U U U U ?_ | refine AX.sk U U ?_) | ((with_reducible refine D.box ?_); refine L.bx U U U U ?_) | ((with_reducible refine D.not ?_); first | refine L.nt U U U ?_ | refine AX.sk U U ?_) | ((with_reducible refine D.pick ?_); refine L.pk U U U U ?_) | ((with_reducible refine D.ax ?_); refine AX.sk U U ?_) | ((with_reducible refine D.aw ?_); (fail_if_success with_reducible refine D.stopR (id := 5) ?_); (fail_if_success with_reducible refine D.stopS (id := 5) ?_); first | refine K.sq (AW.regL ?_) | refine K.sq (K.sq ?_) | refine AW.regL ?_ | refine AW.condT U ?_ | refine AW.condF U ?_ | refine AW.skip ?_ | refine AW.ret ?_) | with_reducible refine K.tN ?_ | with_reducible refine K.tR ?_ | with_reducible refine K.r1 (by with_unfolding_all rfl) (by with_unfolding_all rfl) ?_)
    all_goals first
      | rfl
      | (exfalso; simp at h; done)
  have hf := few_t l hl
  by_cases hsm : a.cn 20000 + b.cn 20000 < 1500
  case neg =>
    rw [decide_eq_false hsm] at hfew
    refine AC.mk Tryz.func3 rfl rfl rfl rfl rfl (Nat.le_of_ble_eq_true rfl) ?_
    repeat' (first | ((with_reducible refine D.nil ?_); refine AX.nilL ?_) | ((with_reducible refine D.load ?_); refine L.ldb U U U U U U ?_) | ((with_reducible refine D.move ?_); refine L.mv U U U ?_) | ((with_reducible refine D.assign ?_); refine L.asg U U U ?_) | ((with_reducible refine D.call ?_); first | refine L.c2 (sane03_c) U U U U ?_ | refine L.c2 (hf) U U U U ?_ | refine L.c2 (hfew) U U U U ?_) | ((with_reducible refine D.box ?_); refine L.bx U U U U ?_) | ((with_reducible refine D.not ?_); refine L.nt U U U ?_) | ((with_reducible refine D.pick ?_); refine L.pk U U U U ?_) | ((with_reducible refine D.ax ?_); refine L.bs2 U U U U U (EC.fold_of U) U U U (EC.fold_of U) U U ?_) | ((with_reducible refine D.aw ?_); (fail_if_success with_reducible refine D.stopR (id := 5) ?_); (fail_if_success with_reducible refine D.stopS (id := 5) ?_); first | refine K.sq (AW.regL ?_) | refine K.sq (K.sq ?_) | refine AW.regL ?_ | refine AW.condT U ?_ | refine AW.condF U ?_ | refine AW.skip ?_ | refine AW.ret ?_) | with_reducible refine K.tN ?_ | with_reducible refine K.tR ?_ | with_reducible refine K.r1 (by with_unfolding_all rfl) (by with_unfolding_all rfl) ?_)
    all_goals first
      | rfl
      | (exfalso; simp at h; done)
  rw [decide_eq_true hsm] at hfew
  have fa := a.cn_bd 20000
  have fb := b.cn_bd 20000
  have oa : OkT a := okT_raw ha (by omega)
  have ob : OkT b := okT_raw hb (by omega)
  clear fa fb hsm ha hb
  have hn := new_c l
  have d0 := deck_ok hl
  have hcx := context_c (Dk.mk l 0) d0
  have hg := Dk.ctx_smalls (Dk.mk l 0)
  have hgl := Dk.ctx_len (Dk.mk l 0)
  have d1 := Dk.ctx_ok d0
  generalize (Dk.mk l 0).ctx.1 = g at *
  generalize (Dk.mk l 0).ctx.2 = D1 at *
  have ts := type1_c D1 d1
  have hs := Dk.type1 D1
  have d2 := Dk.type_ok 1 D1 d1
  generalize (D1.type 1).1 = s at *
  generalize (D1.type 1).2 = D2 at *
  have tx := term_c 5 (by omega) D2 g s 3 (by omega) d2 hg hs (by omega) (by omega) (by omega)
  have mx := Dk.tm_mk 5 D2 g s hg hs (by omega) (by omega)
  have fx := mx.full hg hs
  have d3 := Dk.tm_ok 5 D2 g s d2
  generalize (Dk.tm 5 D2 g s).1 = x at *
  generalize (Dk.tm 5 D2 g s).2 = D3 at *
  have tu := type1_c D3 d3
  have hu := Dk.type1 D3
  have d4 := Dk.type_ok 1 D3 d3
  generalize (D3.type 1).1 = u at *
  generalize (D3.type 1).2 = D4 at *
  have ty := term_c 4 (by omega) D4 g u 2 (by omega) d4 hg hu (by omega) (by omega) (by omega)
  have my := Dk.tm_mk 4 D4 g u hg hu (by omega) (by omega)
  have fy := my.full hg hu
  generalize (Dk.tm 4 D4 g u).1 = y at *
  generalize (Dk.tm 4 D4 g u).2 = D5 at *
  have ox : OkT x := okT_mk mx hg hs (by omega) (by omega) (by omega)
  have oy : OkT y := okT_mk my hg hu (by omega) (by omega) (by omega)
  have hmf := mod_c fr 5 (by omega)
  have hmb := mod_c by_ 5 (by omega)
  clear mx my fx fy d2 d3 d4 d1
  have oz : ∀ z ∈ [a, x], OkT z := by simp [oa, ox]
  have ow : ∀ w ∈ [b, y], OkT w := by simp [ob, oy]
  refine AC.mk Tryz.func3 rfl rfl rfl rfl rfl (Nat.le_of_ble_eq_true rfl) ?_
  repeat' (first | ((with_reducible refine D.nil ?_); refine AX.nilL ?_) | ((with_reducible refine D.load ?_); refine L.ldb U U U U U U ?_) | ((with_reducible refine D.move ?_); refine L.mv U U U ?_) | ((with_reducible refine D.assign ?_); refine L.asg U U U ?_) | ((with_reducible refine D.call ?_); first | refine L.c2 (sane03_c) U U U U ?_ | refine L.c2 (hf) U U U U ?_ | refine L.c2 (hfew) U U U U ?_) | ((with_reducible refine D.box ?_); refine L.bx U U U U ?_) | ((with_reducible refine D.not ?_); refine L.nt U U U ?_) | ((with_reducible refine D.pick ?_); refine L.pk U U U U ?_) | ((with_reducible refine D.ax ?_); refine L.bs2 U U U U U (EC.fold_of U) U U U (EC.fold_of U) U U ?_) | ((with_reducible refine D.aw ?_); (fail_if_success with_reducible refine D.stopR (id := 5) ?_); (fail_if_success with_reducible refine D.stopS (id := 5) ?_); first | refine K.sq (AW.regL ?_) | refine K.sq (K.sq ?_) | refine AW.regL ?_ | refine AW.condF U ?_ | refine AW.skip ?_) | with_reducible refine K.tN ?_)
  all_goals first
    | (exfalso; simp at h; done)
    | skip
  repeat' (first | ((with_reducible refine D.nil ?_); refine AX.nilL ?_) | ((with_reducible refine D.load ?_); refine L.ldb U U U U U U ?_) | ((with_reducible refine D.move ?_); refine L.mv U U U ?_) | ((with_reducible refine D.assign ?_); refine L.asg U U U ?_) | ((with_reducible refine D.call ?_); first | refine L.lnt U U U U ?_ | (apply L.cb2 (hn) [] 1 rfl; rfl; rfl; rfl; rfl; rfl; rfl; (focus ((repeat' (first | exact trivial)); done)); rfl; rfl; rfl; rfl) | (apply L.cb2 (hcx) [2] 0 rfl; rfl; rfl; rfl; rfl; rfl; rfl; (focus ((repeat' (first | exact trivial | refine And.intro ?_ ?_ | refine ⟨_, U, _, U, _, U, ?_⟩ | exact VLe.refl _)); done)); rfl; rfl; rfl; rfl) | (apply L.cb2 (ts) [2] 0 rfl; rfl; rfl; rfl; rfl; rfl; rfl; (focus ((repeat' (first | exact trivial | refine And.intro ?_ ?_ | refine ⟨_, U, _, U, _, U, ?_⟩ | exact VLe.refl _)); done)); rfl; rfl; rfl; rfl) | (apply L.cb2 (tx) [2] 0 rfl; rfl; rfl; rfl; rfl; rfl; rfl; (focus ((repeat' (first | exact trivial | refine And.intro ?_ ?_ | refine ⟨_, U, _, U, _, U, ?_⟩ | exact VLe.refl _)); done)); rfl; rfl; rfl; rfl) | (apply L.cb2 (tu) [2] 0 rfl; rfl; rfl; rfl; rfl; rfl; rfl; (focus ((repeat' (first | exact trivial | refine And.intro ?_ ?_ | refine ⟨_, U, _, U, _, U, ?_⟩ | exact VLe.refl _)); done)); rfl; rfl; rfl; rfl) | (apply L.cb2 (ty) [2] 0 rfl; rfl; rfl; rfl; rfl; rfl; rfl; (focus ((repeat' (first | exact trivial | refine And.intro ?_ ?_ | refine ⟨_, U, _, U, _, U, ?_⟩ | exact VLe.refl _)); done)); rfl; rfl; rfl; rfl)) | ((with_reducible refine D.alloc ?_); refine L.al U U U ?_) | ((with_reducible refine D.store ?_); refine L.st U U U U U U U U U ?_) | ((with_reducible refine D.ax ?_); refine L.bs2 U U U U U (EC.fold_of U) U U U (EC.fold_of U) U U ?_) | ((with_reducible refine D.aw ?_); first | refine K.sq (AW.regL ?_) | refine K.sq (K.sq ?_) | refine AW.regL ?_) | with_reducible refine K.tN ?_)
  clear hn hcx ts tx tu ty hfew hf d0 hg hgl hs hu
  refine AW.range 2 (fun m => True)
    (fun m => ([(3, .i fr), (4, .i by_), (7, .ptr 0 0), (14, .ptr 1 0), (69, .s .tm [a, x]), (70, .i 2), (71, .i m)], ⟨2, [(0, .var b.view), (1, .var y.view)]⟩))
    (by omega) (fun m => rfl) (fun m => rfl) U trivial (Weak.mk [some 1, some 4] _ _ _ U U U U (by (repeat' (first | exact trivial | refine And.intro ?_ ?_ | refine ⟨_, U, _, U, ?_⟩ | exact VLe.refl _ | exact VLe.any _ _)); done) (by (repeat' (first | exact trivial | refine And.intro ?_ ?_ | refine ⟨_, U, _, U, _, U, ?_⟩ | exact VLe.refl _)); done)) ?_ ?_
  · intro m hm _
    have hzm : m < [a, x].length := hm
    have ho := oz [a, x][m] (List.getElem_mem hzm)
    obtain ⟨hzf, hzi⟩ := ho
    have hc1 := uses_c [a, x][m] (by omega) hzi
    have hc2 := ruses_c [a, x][m] (by omega) hzi
    have hc3 := closed_c [a, x][m] (by omega) hzi
    have hc4 := rclosed_c [a, x][m] (by omega) hzi
    have hc5 := ints03_c (if [a, x][m].err = 0 then usesI [a, x][m] else []) (by have := usesI_len [a, x][m]; have := [a, x][m].size_le_full; split <;> simp <;> omega)
    generalize hzz : [a, x][m] = z at *
    repeat' (first | ((with_reducible refine D.nil ?_); refine AX.nilL ?_) | ((with_reducible refine D.load ?_); refine L.lda U U U U U ?_) | ((with_reducible refine D.alloc ?_); refine L.al U U U ?_) | ((with_reducible refine D.store ?_); refine L.st U U U U U U U U U ?_) | ((with_reducible refine D.indexAddr ?_); refine L.ixt _ U U U U U U U (by assumption) ?_) | ((with_reducible refine D.aw ?_); (fail_if_success with_reducible refine D.stopR (id := 11) ?_); (fail_if_success with_reducible refine D.stopS (id := 11) ?_); refine K.sq (AW.regL ?_)) | with_reducible refine K.tN ?_)
    simp only [hzz]
    repeat' (first | ((with_reducible refine D.nil ?_); refine AX.nilL ?_) | ((with_reducible refine D.load ?_); refine L.ldb U U U U U U ?_) | ((with_reducible refine D.move ?_); first | refine L.mv U U U ?_ | refine AX.sk U U ?_ | ((fail_if_success refine AX.wt U ?_); refine AX.gs U U (fun _ => trivial) (fun h => ?_) (fun h => ?_))) | ((with_reducible refine D.assign ?_); refine L.asg U U U ?_) | ((with_reducible refine D.bin ?_); first | refine L.bn U U U U U ?_ | refine AX.sk U U ?_ | refine L.bnq U U U U U ?_) | ((with_reducible refine D.call ?_); first | refine L.c2 (hc1) U U U U ?_ | refine L.c2 (hc2) U U U U ?_ | refine L.c2 (hc3) U U U U ?_ | refine L.c2 (hc4) U U U U ?_ | refine L.c2 (hc5) U U U U ?_ | refine AX.sk U U ?_) | ((with_reducible refine D.extract ?_); refine L.ex U U U U ?_) | ((with_reducible refine D.not ?_); first | refine L.nt U U U ?_ | refine AX.sk U U ?_) | ((with_reducible refine D.pick ?_); refine L.pk U U U U ?_) | ((with_reducible refine D.aw ?_); (fail_if_success with_reducible refine D.stopR (id := 16) ?_); (fail_if_success with_reducible refine D.stopS (id := 16) ?_); (fail_if_success with_reducible refine D.stopR (id := 17) ?_); (fail_if_success with_reducible refine D.stopS (id := 17) ?_); first | refine K.sq (AW.regL ?_) | refine K.sq (K.sq ?_) | refine AW.regL ?_ | refine AW.condT U ?_ | refine AW.condS U (fun h => ?_) (fun h => ?_) | refine AW.skip ?_) | with_reducible refine K.tN ?_)
    all_goals first
      | (exfalso; simp at h; done)
      | skip
    clear hc1 hc2 hc3 hc4 hc5
    repeat' (first | ((with_reducible refine D.nil ?_); refine AX.nilL ?_) | ((with_reducible refine D.move ?_); refine L.mv U U U ?_) | ((with_reducible refine D.call ?_); first | refine L.ln U U U U ?_ | refine L.c2 (hmf) U U U U ?_ | refine L.c2 (hmb) U U U U ?_) | ((with_reducible refine D.ax ?_); first | refine L.bs 0 U U U U U U U U U U ?_ | refine L.bda U U U U U ?_) | ((with_reducible refine D.aw ?_); refine K.sq (AW.regL ?_)) | with_reducible refine K.tN ?_)
    refine AW.range 2 (fun m => True)
      (fun m' => ([(3, .i fr), (4, .i by_), (7, .ptr 0 0), (14, .ptr 1 0), (16, .ptr 2 0), (69, .s .tm [a, x]), (70, .i 2), (71, .i m), (122, .slice .any (.u 2 [[.i fr, .i by_], [.i (modI fr 5), .i (modI by_ 5)]])), (123, .i 2), (124, .i m')], ⟨3, [(0, .var b.view), (1, .var y.view), (2, .var z.view)]⟩))
      (by omega) (fun m => rfl) (fun m => rfl) U trivial (Weak.mk [some 0, some 1, some 2] _ _ _ U U U U (by (repeat' (first | exact trivial | refine And.intro ?_ ?_ | refine ⟨_, U, _, U, ?_⟩ | exact VLe.refl _ | exact VLe.any _ _)); done) (by (repeat' (first | exact trivial | refine And.intro ?_ ?_ | refine ⟨_, U, _, U, _, U, ?_⟩ | exact VLe.refl _)); done)) ?_ ?_
    · intro m' hm' _
      skip
      refine K.sq (AW.cutT (ι := Int × Int) (fun q => ([(3, .i fr), (4, .i by_), (7, .ptr 0 0), (14, .ptr 1 0), (16, .ptr 2 0), (26, .ptr 3 0), (69, .s .tm [a, x]), (70, .i 2), (71, .i m), (122, .slice .any (.u 2 [[.i fr, .i by_], [.i (modI fr 5), .i (modI by_ 5)]])), (123, .i 2), (124, .i m')], ⟨4, [(0, .var b.view), (1, .var y.view), (2, .var z.view), (3, .var [.i q.1, .i q.2])]⟩)) ?_ ?_)
      · match m', hm' with
        | 0, _ =>
          repeat' (first | ((with_reducible refine D.nil ?_); refine AX.nilL ?_) | ((with_reducible refine D.load ?_); refine L.lda U U U U U ?_) | ((with_reducible refine D.alloc ?_); refine L.al U U U ?_) | ((with_reducible refine D.store ?_); refine L.st U U U U U U U U U ?_) | ((with_reducible refine D.indexAddr ?_); refine L.ix 0 U U U U U (Nat.le_of_ble_eq_true U) U U U ?_) | ((with_reducible refine D.aw ?_); refine AW.regL ?_))
          exact ⟨(fr, by_), (Weak.mk [some 0, some 1, some 2, some 3] _ _ _ U U U U (by (repeat' (first | exact trivial | refine And.intro ?_ ?_ | refine ⟨_, U, _, U, ?_⟩ | exact VLe.refl _)); done) (by (repeat' (first | exact trivial | refine And.intro ?_ ?_ | refine ⟨_, U, _, U, _, U, ?_⟩ | exact VLe.refl _)); done))⟩
        | 1, _ =>
          repeat' (first | ((with_reducible refine D.nil ?_); refine AX.nilL ?_) | ((with_reducible refine D.load ?_); refine L.lda U U U U U ?_) | ((with_reducible refine D.alloc ?_); refine L.al U U U ?_) | ((with_reducible refine D.store ?_); refine L.st U U U U U U U U U ?_) | ((with_reducible refine D.indexAddr ?_); refine L.ix 1 U U U U U (Nat.le_of_ble_eq_true U) U U U ?_) | ((with_reducible refine D.aw ?_); refine AW.regL ?_))
          exact ⟨(modI fr 5, modI by_ 5), (Weak.mk [some 0, some 1, some 2, some 3] _ _ _ U U U U (by (repeat' (first | exact trivial | refine And.intro ?_ ?_ | refine ⟨_, U, _, U, ?_⟩ | exact VLe.refl _)); done) (by (repeat' (first | exact trivial | refine And.intro ?_ ?_ | refine ⟨_, U, _, U, _, U, ?_⟩ | exact VLe.refl _)); done))⟩
      rintro ⟨q1, q2⟩
      simp only
      have hc1 := substLift_c z q1 q2 (by omega)
      have hc2 := rlift_c z q1 q2 (by omega)
      have hc3 := substLower_w z q1 (by omega) hzi
      have hc4 := rlower_c z q1 (by omega) hzi
      have hc5 := sameTm_r (if liftErr z q1 q2 = 0 then z.re (liftG q1 q2) 0 else noTm) (bd_lift z q1 q2)
      have hc6 := sameTm_r (if lowerErr z q1 = 0 then z.re (putG q1 noTm) 0 else noTm) (bd_lower z q1)
      repeat' (first | ((with_reducible refine D.nil ?_); refine AX.nilL ?_) | ((with_reducible refine D.load ?_); first | refine L.ldb U U U U U U ?_ | refine AX.sk U U ?_ | ((fail_if_success refine AX.wt U ?_); refine AX.gs U U (fun _ => trivial) (fun h => ?_) (fun h => ?_))) | ((with_reducible refine D.move ?_); first | refine L.mv U U U ?_ | refine AX.sk U U ?_) | ((with_reducible refine D.assign ?_); refine L.asg U U U ?_) | ((with_reducible refine D.bin ?_); first | refine L.bn U U U U U ?_ | refine AX.sk U U ?_) | ((with_reducible refine D.call ?_); first | refine L.c2 (hc1) U U U U ?_ | refine L.c2 (hc2) U U U U ?_ | refine L.c2 (hc3) U U U U ?_ | refine L.c2 (hc4) U U U U ?_ | refine L.c2 (hc5) U U U U ?_ | refine L.c2 (hc6) U U U U ?_ | refine AX.sk U U ?_) | ((with_reducible refine D.extract ?_); refine L.ex U U U U ?_) | ((with_reducible refine D.alloc ?_); refine L.al U U U ?_) | ((with_reducible refine D.store ?_); refine L.st U U U U U U U U U ?_) | ((with_reducible refine D.indexAddr ?_); first | refine L.ixb 0 U U U U U (by decide) U ?_ | refine L.ixb 1 U U U U U (by decide) U ?_) | ((with_reducible refine D.not ?_); first | refine L.nt U U U ?_ | refine AX.sk U U ?_) | ((with_reducible refine D.pick ?_); refine L.pk U U U U ?_) | ((with_reducible refine D.aw ?_); (fail_if_success with_reducible refine D.stopR (id := 25) ?_); (fail_if_success with_reducible refine D.stopS (id := 25) ?_); (fail_if_success with_reducible refine D.stopR (id := 26) ?_); (fail_if_success with_reducible refine D.stopS (id := 26) ?_); first | refine K.sq (AW.regL ?_) | refine K.sq (K.sq ?_) | refine AW.regL ?_ | refine AW.condT U ?_ | refine AW.condF U ?_ | refine AW.skip ?_) | with_reducible refine K.tN ?_)
      all_goals first
        | (exfalso; simp at h; done)
        | skip
      clear hc1 hc2 hc3 hc4 hc5 hc6
      repeat' (first | ((with_reducible refine D.nil ?_); refine AX.nilL ?_) | ((with_reducible refine D.load ?_); refine L.ldb U U U U U U ?_) | ((with_reducible refine D.move ?_); refine L.mv U U U ?_) | ((with_reducible refine D.call ?_); refine L.lnt U U U U ?_) | ((with_reducible refine D.ax ?_); refine L.bs2 U U U U U (EC.fold_of U) U U U (EC.fold_of U) U U ?_) | ((with_reducible refine D.aw ?_); refine K.sq (AW.regL ?_)) | with_reducible refine K.tN ?_)
      refine AW.range 2 (fun m => True)
        (fun m'' => ([(3, .i fr), (4, .i by_), (7, .ptr 0 0), (14, .ptr 1 0), (16, .ptr 2 0), (26, .ptr 3 0), (69, .s .tm [a, x]), (70, .i 2), (71, .i m), (122, .slice .any (.u 2 [[.i fr, .i by_], [.i (modI fr 5), .i (modI by_ 5)]])), (123, .i 2), (124, .i m'), (182, .s .tm [b, y]), (183, .i 2), (184, .i m'')], ⟨4, [(0, .var b.view), (1, .var y.view), (2, .var z.view), (3, .var [.i q1, .i q2])]⟩))
        (by omega) (fun m => rfl) (fun m => rfl) U trivial (Weak.mk [some 0, some 1, some 2, some 3] _ _ _ U U U U (by (repeat' (first | exact trivial | refine And.intro ?_ ?_ | refine ⟨_, U, _, U, ?_⟩ | exact VLe.refl _ | exact VLe.any _ _)); done) (by (repeat' (first | exact trivial | refine And.intro ?_ ?_ | refine ⟨_, U, _, U, _, U, ?_⟩ | exact VLe.refl _)); done)) ?_ ?_
      · intro m'' hm'' _
        have hwm : m'' < [b, y].length := hm''
        obtain ⟨hwf, hwi⟩ := ow [b, y][m''] (List.getElem_mem hwm)
        generalize hww : [b, y][m''] = w at *
        repeat' (first | ((with_reducible refine D.nil ?_); refine AX.nilL ?_) | ((with_reducible refine D.load ?_); refine L.lda U U U U U ?_) | ((with_reducible refine D.alloc ?_); refine L.al U U U ?_) | ((with_reducible refine D.store ?_); refine L.st U U U U U U U U U ?_) | ((with_reducible refine D.indexAddr ?_); refine L.ixt _ U U U U U U U (by assumption) ?_) | ((with_reducible refine D.aw ?_); (fail_if_success with_reducible refine D.stopR (id := 29) ?_); (fail_if_success with_reducible refine D.stopS (id := 29) ?_); refine K.sq (AW.regL ?_)) | with_reducible refine K.tN ?_)
        simp only [hww]
        have hc1 := substPut_c z q1 w (by omega) (by omega)
        have hc2 := rput_c z q1 w (by omega) (by omega)
        have hc5 := sameTm_r (if putErr z q1 w = 0 then z.re (putG q1 w) 0 else noTm) (bd_put z q1 w)
        repeat' (first | ((with_reducible refine D.nil ?_); refine AX.nilL ?_) | ((with_reducible refine D.load ?_); first | refine L.ldb U U U U U U ?_ | refine AX.sk U U ?_ | ((fail_if_success refine AX.wt U ?_); refine AX.gs U U (fun _ => trivial) (fun h => ?_) (fun h => ?_))) | ((with_reducible refine D.move ?_); refine L.mv U U U ?_) | ((with_reducible refine D.assign ?_); refine L.asg U U U ?_) | ((with_reducible refine D.bin ?_); refine L.bn U U U U U ?_) | ((with_reducible refine D.call ?_); first | refine L.c2 (hc1) U U U U ?_ | refine L.c2 (hc2) U U U U ?_ | refine L.c2 (hc5) U U U U ?_ | refine AX.sk U U ?_) | ((with_reducible refine D.extract ?_); refine L.ex U U U U ?_) | ((with_reducible refine D.alloc ?_); refine L.al U U U ?_) | ((with_reducible refine D.store ?_); refine L.st U U U U U U U U U ?_) | ((with_reducible refine D.indexAddr ?_); refine L.ixb 0 U U U U U (by decide) U ?_) | ((with_reducible refine D.not ?_); first | refine L.nt U U U ?_ | refine AX.sk U U ?_) | ((with_reducible refine D.pick ?_); refine L.pk U U U U ?_) | ((with_reducible refine D.aw ?_); (fail_if_success with_reducible refine D.stopR (id := 32) ?_); (fail_if_success with_reducible refine D.stopS (id := 32) ?_); first | refine K.sq (AW.regL ?_) | refine AW.condT U ?_ | refine AW.condF U ?_ | refine AW.skip ?_) | with_reducible refine K.tN ?_ | with_reducible refine K.bN ?_)
        all_goals first
          | (exfalso; simp at h; done)
          | skip
        exact ⟨rfl, trivial, (Weak.mk [some 0, some 1, some 2, some 3] _ _ _ U U U U (by (repeat' (first | exact trivial | refine And.intro ?_ ?_ | refine ⟨_, U, _, U, ?_⟩ | exact VLe.refl _)); done) (by (repeat' (first | exact trivial | refine And.intro ?_ ?_ | refine ⟨_, U, _, U, _, U, ?_⟩ | exact VLe.refl _)); done))⟩
      · intro _
        repeat' (first | with_reducible refine K.bN ?_)
        exact ⟨rfl, trivial, (Weak.mk [some 0, some 1, some 2] _ _ _ U U U U (by (repeat' (first | exact trivial | refine And.intro ?_ ?_ | refine ⟨_, U, _, U, ?_⟩ | exact VLe.refl _)); done) (by (repeat' (first | exact trivial | refine And.intro ?_ ?_ | refine ⟨_, U, _, U, _, U, ?_⟩ | exact VLe.refl _)); done))⟩
    · intro _
      repeat' (first | with_reducible refine K.bN ?_)
      exact ⟨rfl, trivial, (Weak.mk [some 0, some 1] _ _ _ U U U U (by (repeat' (first | exact trivial | refine And.intro ?_ ?_ | refine ⟨_, U, _, U, ?_⟩ | exact VLe.refl _)); done) (by (repeat' (first | exact trivial | refine And.intro ?_ ?_ | refine ⟨_, U, _, U, _, U, ?_⟩ | exact VLe.refl _)); done))⟩
  · intro _
    repeat' (first | ((with_reducible refine D.nil ?_); refine AX.nilL ?_) | ((with_reducible refine D.assign ?_); refine L.asg U U U ?_) | ((with_reducible refine D.aw ?_); first | refine K.sq (AW.regL ?_) | refine AW.ret ?_) | with_reducible refine K.tN ?_ | with_reducible refine K.r1 (by with_unfolding_all rfl) (by with_unfolding_all rfl) ?_)
    rfl
end Go.Ab
