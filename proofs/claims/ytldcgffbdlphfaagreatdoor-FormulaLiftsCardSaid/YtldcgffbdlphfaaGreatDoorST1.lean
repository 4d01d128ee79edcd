/- A part of the proofs of this seat's statements: Y0, Y1, S73, S74, S75, S76, S77. It has no conditions of its own. -/
import Derived.Shelf.SlIterI.Sorted
import Derived.Shelf.SlIterI.Keys
import Derived.Shelf.SortM.Plain
import Derived.Shelf.SortM.SortNone
import Derived.Test.YtldcgffbdlphfaaGreatDoorRows
import Derived.Test.YtldcgffbdlphfaaGreatDoorS1
import Derived.Test.YtldcgffbdlphfaaGreatDoorAT1
import Derived.Test.YtldcgffbdlphfaaGreatDoorDT1
import Derived.Test.YtldcgffbdlphfaaGreatDoorS2
/-
  DERIVED: THE SHELF's CONTRACTS AT THIS DUMP, IN PLAIN WORDS (tools/lay-plain.mjs out of 'YL.lean', which tools/lay-shelf.mjs wrote): THE SAME DECLARATIONS UNDER THE SAME NAMES: 'import', 'namespace', 'open', 'def', 'theorem' AND NOTHING ELSE: no command of the shelf's: FOR A HAND-IN. Each laying: the table of numbers ('.._ren') and one theorem, a field a fact of the dump's own or the kernel's comparison; each contract: ONE APPLICATION.
-/
namespace Go.Proofs
open Go.Shelf
def Tryz.keysA_ren : Go.Shelf.Ren := ⟨fun | 7 => 74 | 10 => 143 | n => n, fun | 23 => 88 | 26 => 3 | 3 => 4 | 28 => 93 | 0 => 0 | 27 => 92 | 33 => 97 | 4 => 4 | n => n, fun | n => n⟩
theorem Tryz.keysA : Go.Proofs.SlLaysZI.n7 Tryz.prog Tryz.keysA_ren := {
  mixed := by kernel_rfl
  f7 := ⟨Tryz.f74.name, by decide, Tryz.func74.trans (congrArg some (by kernel_rfl))⟩
  f10 := ⟨Tryz.f143.name, by decide, Tryz.func143.trans (congrArg some (by kernel_rfl))⟩
  t0 := Tryz.underlying0
  a0 := Tryz.isAgg0
  z0 := Tryz.sizeOf0
  v0 := Tryz.zeroValue0
  t4 := Tryz.underlying4
  a4 := Tryz.isAgg4
  z4 := Tryz.sizeOf4
  v4 := Tryz.zeroValue4
  t23 := Tryz.underlying88
  a23 := Tryz.isAgg88
  z23 := Tryz.sizeOf88
  v23 := Tryz.zeroValue88
  t26 := Tryz.underlying3
  a26 := Tryz.isAgg3
  z26 := Tryz.sizeOf3
  v26 := Tryz.zeroValue3
  t27 := Tryz.underlying92
  a27 := Tryz.isAgg92
  z27 := Tryz.sizeOf92
  v27 := Tryz.zeroValue92
  t28 := Tryz.underlying93
  a28 := Tryz.isAgg93
  z28 := Tryz.sizeOf93
  v28 := Tryz.zeroValue93
  t33 := Tryz.underlying97
  a33 := Tryz.isAgg97
  z33 := Tryz.sizeOf97
  v33 := Tryz.zeroValue97 }
def Tryz.sortedA_ren : Go.Shelf.Ren := ⟨fun | 6 => 73 | 8 => 141 | 9 => 142 | 11 => 174 | 13 => 176 | 12 => 175 | 23 => 198 | 24 => 199 | 14 => 189 | 15 => 190 | 16 => 191 | 17 => 192 | 18 => 193 | 19 => 194 | 20 => 195 | 21 => 196 | 22 => 197 | 25 => 204 | 26 => 205 | 27 => 206 | 28 => 207 | 29 => 208 | 30 => 209 | 31 => 213 | n => n, fun | 26 => 3 | 28 => 93 | 24 => 22 | 0 => 0 | 3 => 3 | 37 => 148 | 48 => 164 | 50 => 166 | 4 => 4 | 40 => 157 | 39 => 156 | 45 => 141 | 5 => 5 | 9 => 9 | 51 => 171 | 55 => 175 | 57 => 181 | 58 => 182 | 33 => 97 | n => n, fun | n => n⟩
theorem Tryz.sortedA : Go.Proofs.SlLaysZI.n6 Tryz.prog Tryz.sortedA_ren := {
  mixed := by kernel_rfl
  f6 := ⟨Tryz.f73.name, by decide, Tryz.func73.trans (congrArg some (by kernel_rfl))⟩
  f8 := ⟨Tryz.f141.name, by decide, Tryz.func141.trans (congrArg some (by kernel_rfl))⟩
  f11 := ⟨Tryz.f174.name, by decide, Tryz.func174.trans (congrArg some (by kernel_rfl))⟩
  t0 := Tryz.underlying0
  a0 := Tryz.isAgg0
  z0 := Tryz.sizeOf0
  v0 := Tryz.zeroValue0
  t24 := Tryz.underlying22
  a24 := Tryz.isAgg22
  z24 := Tryz.sizeOf22
  v24 := Tryz.zeroValue22
  t26 := Tryz.underlying3
  a26 := Tryz.isAgg3
  z26 := Tryz.sizeOf3
  v26 := Tryz.zeroValue3
  t28 := Tryz.underlying93
  a28 := Tryz.isAgg93
  z28 := Tryz.sizeOf93
  v28 := Tryz.zeroValue93
  i26 := by kernel_rfl }
def Tryz.sortA_ren : Go.Shelf.Ren := ⟨fun | 5 => 142 | 8 => 176 | 7 => 175 | 19 => 198 | 20 => 199 | 10 => 189 | 11 => 190 | 12 => 191 | 13 => 192 | 14 => 193 | 15 => 194 | 16 => 195 | 17 => 196 | 18 => 197 | 30 => 204 | 31 => 205 | 32 => 206 | 33 => 207 | 34 => 208 | 35 => 209 | 40 => 213 | n => n, fun | 23 => 22 | 25 => 3 | 3 => 3 | 32 => 148 | 22 => 22 | 0 => 0 | 44 => 164 | 46 => 166 | 4 => 4 | 36 => 157 | 35 => 156 | 41 => 141 | 5 => 5 | 9 => 9 | 53 => 171 | 57 => 175 | 63 => 181 | 64 => 182 | n => n, fun | n => n⟩
theorem Tryz.sortA : Go.Proofs.SlLaysM.n5 Tryz.prog Tryz.sortA_ren := {
  mixed := by kernel_rfl
  f5 := ⟨Tryz.f142.name, by decide, Tryz.func142.trans (congrArg some (by kernel_rfl))⟩
  f7 := ⟨Tryz.f175.name, by decide, Tryz.func175.trans (congrArg some (by kernel_rfl))⟩
  f8 := Tryz.func176.trans (congrArg some (by kernel_rfl))
  f10 := ⟨Tryz.f189.name, by decide, Tryz.func189.trans (congrArg some (by kernel_rfl))⟩
  f11 := ⟨Tryz.f190.name, by decide, Tryz.func190.trans (congrArg some (by kernel_rfl))⟩
  f12 := ⟨Tryz.f191.name, by decide, Tryz.func191.trans (congrArg some (by kernel_rfl))⟩
  f13 := ⟨Tryz.f192.name, by decide, Tryz.func192.trans (congrArg some (by kernel_rfl))⟩
  f14 := ⟨Tryz.f193.name, by decide, Tryz.func193.trans (congrArg some (by kernel_rfl))⟩
  f15 := ⟨Tryz.f194.name, by decide, Tryz.func194.trans (congrArg some (by kernel_rfl))⟩
  f16 := ⟨Tryz.f195.name, by decide, Tryz.func195.trans (congrArg some (by kernel_rfl))⟩
  f17 := ⟨Tryz.f196.name, by decide, Tryz.func196.trans (congrArg some (by kernel_rfl))⟩
  f18 := ⟨Tryz.f197.name, by decide, Tryz.func197.trans (congrArg some (by kernel_rfl))⟩
  f19 := Tryz.func198.trans (congrArg some (by kernel_rfl))
  f20 := Tryz.func199.trans (congrArg some (by kernel_rfl))
  f30 := ⟨Tryz.f204.name, by decide, Tryz.func204.trans (congrArg some (by kernel_rfl))⟩
  f31 := Tryz.func205.trans (congrArg some (by kernel_rfl))
  f32 := Tryz.func206.trans (congrArg some (by kernel_rfl))
  f33 := ⟨Tryz.f207.name, by decide, Tryz.func207.trans (congrArg some (by kernel_rfl))⟩
  f34 := ⟨Tryz.f208.name, by decide, Tryz.func208.trans (congrArg some (by kernel_rfl))⟩
  f35 := ⟨Tryz.f209.name, by decide, Tryz.func209.trans (congrArg some (by kernel_rfl))⟩
  f40 := ⟨Tryz.f213.name, by decide, Tryz.func213.trans (congrArg some (by kernel_rfl))⟩
  t0 := Tryz.underlying0
  a0 := Tryz.isAgg0
  z0 := Tryz.sizeOf0
  v0 := Tryz.zeroValue0
  t3 := Tryz.underlying3
  a3 := Tryz.isAgg3
  z3 := Tryz.sizeOf3
  v3 := Tryz.zeroValue3
  t4 := Tryz.underlying4
  a4 := Tryz.isAgg4
  z4 := Tryz.sizeOf4
  v4 := Tryz.zeroValue4
  t5 := Tryz.underlying5
  a5 := Tryz.isAgg5
  z5 := Tryz.sizeOf5
  v5 := Tryz.zeroValue5
  t9 := Tryz.underlying9
  a9 := Tryz.isAgg9
  z9 := Tryz.sizeOf9
  v9 := Tryz.zeroValue9
  t22 := Tryz.underlying22
  a22 := Tryz.isAgg22
  z22 := Tryz.sizeOf22
  v22 := Tryz.zeroValue22
  t23 := Tryz.underlying22
  a23 := Tryz.isAgg22
  z23 := Tryz.sizeOf22
  v23 := Tryz.zeroValue22
  t25 := Tryz.underlying3
  a25 := Tryz.isAgg3
  z25 := Tryz.sizeOf3
  v25 := Tryz.zeroValue3
  t32 := Tryz.underlying148
  a32 := Tryz.isAgg148
  z32 := Tryz.sizeOf148
  v32 := Tryz.zeroValue148
  t35 := Tryz.underlying156
  a35 := Tryz.isAgg156
  z35 := Tryz.sizeOf156
  v35 := Tryz.zeroValue156
  t36 := Tryz.underlying157
  a36 := Tryz.isAgg157
  z36 := Tryz.sizeOf157
  v36 := Tryz.zeroValue157
  t41 := Tryz.underlying141
  a41 := Tryz.isAgg141
  z41 := Tryz.sizeOf141
  v41 := Tryz.zeroValue141
  t44 := Tryz.underlying164
  a44 := Tryz.isAgg164
  z44 := Tryz.sizeOf164
  v44 := Tryz.zeroValue164
  t46 := Tryz.underlying166
  a46 := Tryz.isAgg166
  z46 := Tryz.sizeOf166
  v46 := Tryz.zeroValue166
  t53 := Tryz.underlying171
  a53 := Tryz.isAgg171
  z53 := Tryz.sizeOf171
  v53 := Tryz.zeroValue171
  t57 := Tryz.underlying175
  a57 := Tryz.isAgg175
  z57 := Tryz.sizeOf175
  v57 := Tryz.zeroValue175
  t63 := Tryz.underlying181
  a63 := Tryz.isAgg181
  z63 := Tryz.sizeOf181
  v63 := Tryz.zeroValue181
  t64 := Tryz.underlying182
  a64 := Tryz.isAgg182
  z64 := Tryz.sizeOf182
  v64 := Tryz.zeroValue182 }
end Go.Proofs
namespace Go.Ab
open Go Go.Proofs Go.RowKit
set_option linter.all false
set_option maxRecDepth 100000
theorem sorts_in (m : Nat) : AnyZI.SortsIn E.P Tryz.sortedA_ren Fence.wide m :=
  ⟨fun blk off cap ss W hH hblk hsz => callsIn_wide.2 (AnyM.slices_Sort_int Tryz.sortA blk off cap ss W hH hblk hsz), fun p cap W => callsIn_wide.2 (AnyM.slices_Sort_int_none Tryz.sortA p cap W)⟩
theorem mapKeys_c {σ : Sto} {n : Nat} (h : n < σ.nx) : AC E 74 [.mp n] σ (.fn (.func 143) [] [.ptr σ.nx 0]) ⟨σ.nx + 1, (σ.nx, .var [.mp n]) :: σ.es⟩ :=
  AC.mapKeys (E := E) (ρ7 := Tryz.keysA_ren) Tryz.keysA (enters_of Tryz.func74 (by kernel_rfl) rfl) h
theorem sorted_c {σ : Sto} {n b : Nat} {c : EC} {ks : List Int} {xs : List c.sem} (hb : findE σ.es b = some (.var [.mp n])) (hn : findE σ.es n = some (.map c ks xs))
    (hnd : ks.Nodup) (hwf : ∀ x ∈ ks, (Lit.int .i64 x).wf = true) (hmax : ks.length < 549755813888) :
    AC E 73 [.fn (.func 143) [] [.ptr b 0]] σ (.s .int (sortI ks)) σ :=
  AC.sortedKeys (E := E) (ρ7 := Tryz.keysA_ren) (ρ6 := Tryz.sortedA_ren) Tryz.keysA Tryz.sortedA sorts_in (enters_of Tryz.func73 (by kernel_rfl) rfl) (enters_of Tryz.func142 (by kernel_rfl) rfl)
    (enters_of Tryz.func143 (by kernel_rfl) rfl) (by kernel_rfl) hb hn hnd hwf (Nat.le_trans (Nat.le_of_lt hmax) (by decide)) (by omega)
end Go.Ab
namespace Go.Ab
open Go Go.Proofs
set_option maxRecDepth 100000
set_option maxHeartbeats 4000000
set_option linter.all false
theorem usesFCb (ks : List Int) (i bl ab : Int) (hi : 0 ≤ i ∧ i < 9223372036854775808) (hb : 0 ≤ bl ∧ bl < 1099511627776) (ha : 0 ≤ ab ∧ ab < 1099511627776) : AC E 122 [.i i, .i bl, .ptr 0 0, .ptr 1 0] ⟨3, [(0, .var [.i ab]), (1, .var [.mp 2]), (2, .map .bl ks (List.replicate ks.length true))]⟩ (.tup [])
    ⟨3, [(0, .var [.i ab]), (1, .var [.mp 2]), (2, .map .bl (nub ks (fre [(i, bl + ab)])) (List.replicate (nub ks (fre [(i, bl + ab)])).length true))]⟩ := by
  have e : i - bl - ab = i - (bl + ab) := by omega
  refine AC.mk Tryz.func122 rfl rfl rfl rfl rfl (Nat.le_of_ble_eq_true rfl) ?_
  repeat' (first | ((with_reducible refine D.nil ?_); refine AX.nilL ?_) | ((with_reducible refine D.load ?_); refine L.ldb U U U U U U ?_) | ((with_reducible refine D.move ?_); refine L.mv U U U ?_) | ((with_reducible refine D.assign ?_); refine L.asg U U U ?_) | ((with_reducible refine D.bin ?_); first | refine L.sb U U U U (by omega) ?_ | refine L.bn U U U U U ?_) | ((with_reducible refine D.ax ?_); refine L.muB U U U U U U U U ?_) | ((with_reducible refine D.aw ?_); first | refine K.sq (AW.regL ?_) | refine AW.regL ?_ | refine AW.condS U (fun h => ?_) (fun h => ?_) | refine AW.skip ?_) | with_reducible refine K.tN ?_)
  · have h2 : bl + ab ≤ i := by simp at h; omega
    (exact K.n2 [some 0, some 1, some 2] U U U U U (by (repeat' (first | exact trivial | refine And.intro ?_ ?_ | refine ⟨_, U, _, U, _, U, ?_⟩ | exact VLe.refl _ | refine ⟨_, U, _, _, U, ?_, ?_⟩ | (simp [Sto.upd, fre_one, nub_one, putCs_same, if_pos h2, e]; done))); done) U (by simp [tupV, V.wk, V.wks, constV, Ty.view, Tm.view, fre_one, nub_one, putCs_same, if_pos h2, e]))
  · have h2 : ¬ bl + ab ≤ i := by simp at h; omega
    (exact K.n2 [some 0, some 1, some 2] U U U U U (by (repeat' (first | exact trivial | refine And.intro ?_ ?_ | refine ⟨_, U, _, U, _, U, ?_⟩ | exact VLe.refl _ | refine ⟨_, U, _, _, U, ?_, ?_⟩ | (simp [Sto.upd, fre_one, nub_nil, if_neg h2]; done))); done) U (by simp [tupV, V.wk, V.wks, constV, Ty.view, Tm.view, fre_one, nub_nil, if_neg h2]))
theorem usesFEach1 (ab : Int) (hab : 0 ≤ ab ∧ ab < 1099511627776) : ∀ (n : Nat) (t : Tm) (ks : List Int) (bl : Int), t.full ≤ n → n < 1099511627776 → 0 ≤ bl → bl + n < 1099511627776 → (∀ p ∈ t.vars (bl + ab), 0 ≤ p.1 ∧ p.1 < 9223372036854775808) → AC E 140 [.agg t.view, .i bl, .ptr 0 0, .ptr 1 0] ⟨5, [(0, .var [.fn (.func 122) [] [.ptr 2 0, .ptr 3 0]]), (1, .var [.fn (.func 140) [] [.ptr 0 0, .ptr 1 0]]), (2, .var [.i ab]), (3, .var [.mp 4]), (4, .map .bl ks (List.replicate ks.length true))]⟩ (.tup [])
    ⟨5, [(0, .var [.fn (.func 122) [] [.ptr 2 0, .ptr 3 0]]), (1, .var [.fn (.func 140) [] [.ptr 0 0, .ptr 1 0]]), (2, .var [.i ab]), (3, .var [.mp 4]), (4, .map .bl (nub ks (fre (t.vars (bl + ab)))) (List.replicate (nub ks (fre (t.vars (bl + ab)))).length true))]⟩ := by
  intro n
  induction n with
  | zero => intro t b bl h; have := t.full_pos; omega
  | succ n ih =>
  intro t ks bl hsz hb hbl hbn hix
  have hsz' := Tm.full_eq t
  have hlen := lsum_len Tm.full Tm.full_pos t.args
  have hv := Tm.vars_eq (bl + ab) t
  rw [show up t.kind (bl + ab) = up t.kind bl + ab by simp only [up]; split <;> omega] at hv
  have hi : t.kind = 1 → 0 ≤ t.index ∧ t.index < 9223372036854775808 := fun h => by simpa using hix (t.index, bl + ab) (by rw [hv]; simp [h])
  have hcb : t.kind = 1 → _ := fun h => usesFCb ks t.index bl ab (hi h) (by omega) hab
  refine AC.mk Tryz.func140 rfl rfl rfl rfl rfl (Nat.le_of_ble_eq_true rfl) ?_
  repeat' (first | ((with_reducible refine D.nil ?_); refine AX.nilL ?_) | ((with_reducible refine D.load ?_); refine L.ldb U U U U U U ?_) | ((with_reducible refine D.move ?_); refine L.mv U U U ?_) | ((with_reducible refine D.fieldAddr ?_); refine L.fab U U U U U ?_) | ((with_reducible refine D.assign ?_); refine L.asg U U U ?_) | ((with_reducible refine D.bin ?_); first | refine L.ad U U U U (by omega) ?_ | refine L.bn U U U U U ?_) | ((with_reducible refine D.call ?_); first | refine L.lnt U U U U ?_ | (apply L.cv2 (hcb (by simpa using h)) [2, 3, 4] 0 rfl; rfl; rfl; rfl; rfl; rfl; rfl; rfl; (focus ((repeat' (first | exact trivial | refine And.intro ?_ ?_ | refine ⟨_, U, _, U, _, U, ?_⟩ | exact VLe.refl _ | refine ⟨_, U, _, _, U, ?_, ?_⟩ | with_reducible exact rfl)); done)); rfl; rfl; rfl; rfl)) | ((with_reducible refine D.box ?_); refine L.bx U U U U ?_) | ((with_reducible refine D.aw ?_); first | refine K.sq (AW.regL ?_) | refine K.sq (K.sq ?_) | refine AW.regL ?_ | refine AW.condS U (fun h => ?_) (fun h => ?_) | refine AW.skip ?_) | with_reducible refine K.tN ?_)
  all_goals
    have hup : up t.kind bl ≤ bl + 1 := by simp only [up]; split <;> omega
    have hup0 : 0 ≤ up t.kind bl := by simp only [up]; split <;> omega
    refine AW.range t.args.length (fun m => True)
      (fun m => ([(1, .i (up t.kind bl)), (3, .ptr 1 0), (22, .s .tm t.args), (23, .i t.args.length), (24, .i m)], ⟨6, [(0, .var [.fn (.func 122) [] [.ptr 2 0, .ptr 3 0]]), (1, .var [.fn (.func 140) [] [.ptr 0 0, .ptr 1 0]]), (2, .var [.i ab]), (3, .var [.mp 4]), (4, .map .bl (nub ks (fre ((if t.kind = 1 then [(t.index, bl + ab)] else []) ++ (t.args.take m).flatMap (Tm.vars (up t.kind bl + ab))))) (List.replicate (nub ks (fre ((if t.kind = 1 then [(t.index, bl + ab)] else []) ++ (t.args.take m).flatMap (Tm.vars (up t.kind bl + ab))))).length true)), (5, .var t.view)]⟩))
      (by omega) (fun m => rfl) (fun m => rfl) rfl trivial ?_ ?_ ?_
    · simp_all only [beq_iff_eq, beq_eq_false_iff_ne, ne_eq]
      exact (Weak.mk [some 0, some 1, some 2, some 3, some 4, some 5] _ _ _ U U U U (by (repeat' (first | exact trivial | refine And.intro ?_ ?_ | refine ⟨_, U, _, U, ?_⟩ | exact VLe.refl _ | exact VLe.of_eq (by simp [Sto.upd, up, *, fre_app, fre_nil, nub_nil]))); done) (by (repeat' (first | exact trivial | refine And.intro ?_ ?_ | refine ⟨_, U, _, U, _, U, ?_⟩ | exact VLe.refl _ | refine ⟨_, U, _, _, U, ?_, ?_⟩ | (simp [Sto.upd, up, *, fre_app, fre_nil, nub_nil]; done))); done))
    · intro m hm hP
      have hs2 := lsum_mem Tm.full (List.getElem_mem hm)
      have hix' : ∀ p ∈ (t.args[m]).vars (up t.kind bl + ab), 0 ≤ p.1 ∧ p.1 < 9223372036854775808 := fun p hp => hix p (by rw [hv]; exact List.mem_append_right _ (List.mem_flatMap.2 ⟨_, List.getElem_mem hm, hp⟩))
      have hc := ih t.args[m] (nub ks (fre ((if t.kind = 1 then [(t.index, bl + ab)] else []) ++ (t.args.take m).flatMap (Tm.vars (up t.kind bl + ab))))) (up t.kind bl) (by omega) (by omega) hup0 (by omega) hix'
      repeat' (first | ((with_reducible refine D.nil ?_); refine AX.nilL ?_) | ((with_reducible refine D.load ?_); first | refine L.ldb U U U U U U ?_ | refine L.lda U U U U U ?_) | ((with_reducible refine D.move ?_); refine L.mv U U U ?_) | ((with_reducible refine D.call ?_); (apply L.cv2 (hc) [0, 1, 2, 3, 4] 0 rfl; rfl; rfl; rfl; rfl; rfl; rfl; rfl; (focus ((repeat' (first | exact trivial | refine And.intro ?_ ?_ | refine ⟨_, U, _, U, _, U, ?_⟩ | exact VLe.refl _ | refine ⟨_, U, _, _, U, ?_, ?_⟩ | with_reducible exact rfl)); done)); rfl; rfl; rfl; rfl)) | ((with_reducible refine D.alloc ?_); refine L.al U U U ?_) | ((with_reducible refine D.store ?_); refine L.st U U U U U U U U U ?_) | ((with_reducible refine D.indexAddr ?_); refine L.ixt _ U U U U U U U (by assumption) ?_) | ((with_reducible refine D.aw ?_); first | refine K.sq (AW.regL ?_) | refine AW.regL ?_) | with_reducible refine K.tN ?_ | with_reducible refine K.bN ?_)
      refine ⟨rfl, trivial, ?_⟩
      exact (Weak.mk [some 0, some 1, some 2, some 3, some 4, some 5] _ _ _ U U U U (by (repeat' (first | exact trivial | refine And.intro ?_ ?_ | refine ⟨_, U, _, U, ?_⟩ | exact VLe.refl _)); done) (by (repeat' (first | exact trivial | refine And.intro ?_ ?_ | refine ⟨_, U, _, U, _, U, ?_⟩ | exact VLe.refl _ | refine ⟨_, U, _, _, U, ?_, ?_⟩ | (simp [Sto.upd, fre_app, nub_app, flat_take _ _ _ hm, ← List.append_assoc]; done))); done))
    · intro hP
      skip
      (exact K.n2 [some 0, some 1, some 2, some 3, some 4] U U U U U (by (repeat' (first | exact trivial | refine And.intro ?_ ?_ | refine ⟨_, U, _, U, _, U, ?_⟩ | exact VLe.refl _ | refine ⟨_, U, _, _, U, ?_, ?_⟩ | (simp [Sto.upd, hv]; done))); done) U (by simp [tupV, V.wk, V.wks, constV, Ty.view, Tm.view, hv]))
theorem usesFEach (ab : Int) (hab : 0 ≤ ab ∧ ab < 1099511627776) (ks : List Int) (t : Tm) (ht : t.full < 549755813888) (hix : ∀ p ∈ t.vars ab, 0 ≤ p.1 ∧ p.1 < 9223372036854775808) : AC E 71 [.agg t.view, .fn (.func 122) [] [.ptr 0 0, .ptr 1 0]] ⟨3, [(0, .var [.i ab]), (1, .var [.mp 2]), (2, .map .bl ks (List.replicate ks.length true))]⟩ (.tup []) ⟨3, [(0, .var [.i ab]), (1, .var [.mp 2]), (2, .map .bl (nub ks (fre (t.vars ab))) (List.replicate (nub ks (fre (t.vars ab))).length true))]⟩ := by
  have hc := usesFEach1 ab hab _ t ks 0 (Nat.le_refl _) (by omega) (by omega) (by omega) (by rw [Int.zero_add]; exact hix)
  rw [Int.zero_add] at hc
  refine AC.mk Tryz.func71 rfl rfl rfl rfl rfl (Nat.le_of_ble_eq_true rfl) ?_
  repeat' (first | ((with_reducible refine D.nil ?_); refine AX.nilL ?_) | ((with_reducible refine D.load ?_); refine L.ldb U U U U U U ?_) | ((with_reducible refine D.call ?_); (apply L.cv2 (hc) [4, 5, 0, 1, 2] 0 rfl; rfl; rfl; rfl; rfl; rfl; rfl; rfl; (focus ((repeat' (first | exact trivial | refine And.intro ?_ ?_ | refine ⟨_, U, _, U, _, U, ?_⟩ | exact VLe.refl _ | refine ⟨_, U, _, _, U, ?_, ?_⟩ | with_reducible exact rfl)); done)); rfl; rfl; rfl; rfl)) | ((with_reducible refine D.box ?_); refine L.bx U U U U ?_) | ((with_reducible refine D.alloc ?_); refine L.al U U U ?_) | ((with_reducible refine D.store ?_); refine L.st U U U U U U U U U ?_) | ((with_reducible refine D.ax ?_); refine L.mf U U U U ?_) | ((with_reducible refine D.aw ?_); first | refine K.sq (AW.regL ?_) | refine AW.regL ?_) | with_reducible refine K.tN ?_)
  (exact K.n2 [some 0, some 1, some 2] U U U U U (by (repeat' (first | exact trivial | refine And.intro ?_ ?_ | refine ⟨_, U, _, U, _, U, ?_⟩ | exact VLe.refl _ | refine ⟨_, U, _, _, U, ?_, ?_⟩ | with_reducible exact rfl)); done) U (by simp [tupV, V.wk, V.wks, constV, Ty.view, Tm.view, useK]))
theorem usesFFm (ab : Int) (hab : 0 ≤ ab ∧ ab < 1099511627776) (ks : List Int) (t : Tm) (ht : t.full < 549755813888) (hix : ∀ p ∈ t.vars ab, 0 ≤ p.1 ∧ p.1 < 9223372036854775808) : AC E 121 [.agg t.view, .i ab, .ptr 0 0] ⟨2, [(0, .var [.mp 1]), (1, .map .bl ks (List.replicate ks.length true))]⟩ (.tup []) ⟨2, [(0, .var [.mp 1]), (1, .map .bl (nub ks (fre (varsL [(t, ab)]))) (List.replicate (nub ks (fre (varsL [(t, ab)]))).length true))]⟩ := by
  have hc := usesFEach ab hab ks t ht hix
  refine AC.mk Tryz.func121 rfl rfl rfl rfl rfl (Nat.le_of_ble_eq_true rfl) ?_
  repeat' (first | ((with_reducible refine D.nil ?_); refine AX.nilL ?_) | ((with_reducible refine D.load ?_); refine L.ldb U U U U U U ?_) | ((with_reducible refine D.call ?_); (apply L.cb2 (hc) [3, 0, 1] 0 rfl; rfl; rfl; rfl; rfl; rfl; rfl; (focus ((repeat' (first | exact trivial | refine And.intro ?_ ?_ | refine ⟨_, U, _, U, _, U, ?_⟩ | exact VLe.refl _ | refine ⟨_, U, _, _, U, ?_, ?_⟩ | with_reducible exact rfl)); done)); rfl; rfl; rfl; rfl)) | ((with_reducible refine D.box ?_); refine L.bx U U U U ?_) | ((with_reducible refine D.ax ?_); refine L.mf U U U U ?_) | ((with_reducible refine D.aw ?_); first | refine K.sq (AW.regL ?_) | refine AW.regL ?_) | with_reducible refine K.tN ?_)
  (exact K.n2 [some 0, some 1] U U U U U (by (repeat' (first | exact trivial | refine And.intro ?_ ?_ | refine ⟨_, U, _, U, _, U, ?_⟩ | exact VLe.refl _ | refine ⟨_, U, _, _, U, ?_, ?_⟩ | (simp [Sto.upd, varsL_one]; done))); done) U (by simp [tupV, V.wk, V.wks, constV, Ty.view, Tm.view, varsL_one]))
theorem usesFEachF : ∀ (n : Nat) (f : Fm) (ks : List Int) (bl : Int), f.full ≤ n → n < 549755813888 → 0 ≤ bl → bl + n < 549755813888 → (∀ p ∈ varsL (f.tms bl), 0 ≤ p.1 ∧ p.1 < 9223372036854775808) → AC E 120 [.agg f.view, .i bl, .fn (.func 121) [] [.ptr 0 0]] ⟨2, [(0, .var [.mp 1]), (1, .map .bl ks (List.replicate ks.length true))]⟩ (.tup []) ⟨2, [(0, .var [.mp 1]), (1, .map .bl (nub ks (fre (varsL (f.tms bl)))) (List.replicate (nub ks (fre (varsL (f.tms bl)))).length true))]⟩ := by
  intro n
  induction n with
  | zero => intro f; intros; have := f.full_pos; omega
  | succ n ih =>
  intro f ks bl hsz hn hbl hbn hix
  have hsz' := f.full_eq
  have hlen := lsum_len Fm.full Fm.full_pos f.args
  have hlen2 := lsum_len Tm.full Tm.full_pos f.terms
  have htm := f.tms_eq bl
  have hq := quantifier_c f.kind
  refine AC.mk Tryz.func120 rfl rfl rfl rfl rfl (Nat.le_of_ble_eq_true rfl) ?_
  repeat' (first | ((with_reducible refine D.nil ?_); refine AX.nilL ?_) | ((with_reducible refine D.load ?_); refine L.ldb U U U U U U ?_) | ((with_reducible refine D.move ?_); refine L.mv U U U ?_) | ((with_reducible refine D.fieldAddr ?_); refine L.fab U U U U U ?_) | ((with_reducible refine D.call ?_); refine L.lnt U U U U ?_) | ((with_reducible refine D.box ?_); refine L.bx U U U U ?_) | ((with_reducible refine D.aw ?_); first | refine K.sq (AW.regL ?_) | refine K.sq (K.sq ?_) | refine AW.regL ?_) | with_reducible refine K.tN ?_)
  refine AW.range f.terms.length (fun m => True)
    (fun m => ([(1, .i bl), (2, .fn (.func 121) [] [.ptr 0 0]), (3, .ptr 2 0), (11, .s .tm f.terms), (12, .i f.terms.length), (13, .i m)], ⟨3, [(0, .var [.mp 1]), (1, .map .bl (nub ks (fre (varsL ((f.terms.take m).map (fun t => (t, bl)))))) (List.replicate (nub ks (fre (varsL ((f.terms.take m).map (fun t => (t, bl)))))).length true)), (2, .var f.view)]⟩))
    (by omega) (fun m => rfl) (fun m => rfl) rfl trivial ?_ ?_ ?_
  · exact (Weak.mk [some 0, some 1, some 2] _ _ _ U U U U (by (repeat' (first | exact trivial | refine And.intro ?_ ?_ | refine ⟨_, U, _, U, ?_⟩ | exact VLe.refl _)); done) (by (repeat' (first | exact trivial | refine And.intro ?_ ?_ | refine ⟨_, U, _, U, _, U, ?_⟩ | exact VLe.refl _ | refine ⟨_, U, _, _, U, ?_, ?_⟩ | (simp [Sto.upd, varsL_nil, fre_nil, nub_nil]; done))); done))
  · intro m hm _
    have hs2 := lsum_mem Tm.full (List.getElem_mem hm)
    have hc := usesFFm bl (by omega) (nub ks (fre (varsL ((f.terms.take m).map (fun t => (t, bl)))))) f.terms[m] (by omega) fun p hp => hix p (by rw [htm, varsL_app]; exact List.mem_append_left _ (List.mem_flatMap.2 ⟨(f.terms[m], bl), List.mem_map.2 ⟨_, List.getElem_mem hm, rfl⟩, hp⟩))
    repeat' (first | ((with_reducible refine D.nil ?_); refine AX.nilL ?_) | ((with_reducible refine D.load ?_); first | refine L.ldb U U U U U U ?_ | refine L.lda U U U U U ?_) | ((with_reducible refine D.move ?_); refine L.mv U U U ?_) | ((with_reducible refine D.call ?_); (apply L.cv2 (hc) [0, 1] 0 rfl; rfl; rfl; rfl; rfl; rfl; rfl; rfl; (focus ((repeat' (first | exact trivial | refine And.intro ?_ ?_ | refine ⟨_, U, _, U, _, U, ?_⟩ | exact VLe.refl _ | refine ⟨_, U, _, _, U, ?_, ?_⟩ | with_reducible exact rfl)); done)); rfl; rfl; rfl; rfl)) | ((with_reducible refine D.alloc ?_); refine L.al U U U ?_) | ((with_reducible refine D.store ?_); refine L.st U U U U U U U U U ?_) | ((with_reducible refine D.indexAddr ?_); refine L.ixt _ U U U U U U U (by assumption) ?_) | ((with_reducible refine D.aw ?_); first | refine K.sq (AW.regL ?_) | refine AW.regL ?_) | with_reducible refine K.tN ?_ | with_reducible refine K.bN ?_)
    refine ⟨rfl, trivial, ?_⟩
    exact (Weak.mk [some 0, some 1, some 2] _ _ _ U U U U (by (repeat' (first | exact trivial | refine And.intro ?_ ?_ | refine ⟨_, U, _, U, ?_⟩ | exact VLe.refl _)); done) (by (repeat' (first | exact trivial | refine And.intro ?_ ?_ | refine ⟨_, U, _, U, _, U, ?_⟩ | exact VLe.refl _ | refine ⟨_, U, _, _, U, ?_, ?_⟩ | (simp [Sto.upd, varsL_app, fre_app, nub_app, map_take _ _ _ hm]; done))); done))
  · intro _
    simp only [List.take_length]
    repeat' (first | ((with_reducible refine D.nil ?_); refine AX.nilL ?_) | ((with_reducible refine D.load ?_); refine L.ldb U U U U U U ?_) | ((with_reducible refine D.move ?_); refine L.mv U U U ?_) | ((with_reducible refine D.fieldAddr ?_); refine L.fab U U U U U ?_) | ((with_reducible refine D.assign ?_); refine L.asg U U U ?_) | ((with_reducible refine D.bin ?_); refine L.ad U U U U (by omega) ?_) | ((with_reducible refine D.call ?_); first | refine L.lnt U U U U ?_ | refine L.c2 (hq) U U U U ?_) | ((with_reducible refine D.aw ?_); first | refine K.sq (AW.regL ?_) | refine K.sq (K.sq ?_) | refine AW.regL ?_ | refine AW.condS U (fun h => ?_) (fun h => ?_) | refine AW.skip ?_) | with_reducible refine K.tN ?_)
    all_goals
      have hup : upF f.kind bl ≤ bl + 1 := by simp only [upF]; split <;> omega
      have hup0 : 0 ≤ upF f.kind bl := by simp only [upF]; split <;> omega
      refine AW.range f.args.length (fun m => True)
        (fun m => ([(1, .i (upF f.kind bl)), (2, .fn (.func 121) [] [.ptr 0 0]), (3, .ptr 2 0), (28, .s .fm f.args), (29, .i f.args.length), (30, .i m)], ⟨3, [(0, .var [.mp 1]), (1, .map .bl (nub ks (fre (varsL (f.terms.map (fun t => (t, bl)) ++ (f.args.take m).flatMap (Fm.tms (upF f.kind bl)))))) (List.replicate (nub ks (fre (varsL (f.terms.map (fun t => (t, bl)) ++ (f.args.take m).flatMap (Fm.tms (upF f.kind bl)))))).length true)), (2, .var f.view)]⟩))
        (by omega) (fun m => rfl) (fun m => rfl) rfl trivial ?_ ?_ ?_
      · exact (Weak.mk [some 0, some 1, some 2] _ _ _ U U U U (by (repeat' (first | exact trivial | refine And.intro ?_ ?_ | refine ⟨_, U, _, U, ?_⟩ | exact VLe.refl _ | exact VLe.of_eq (by simp [Sto.upd, upF, h]))); done) (by (repeat' (first | exact trivial | refine And.intro ?_ ?_ | refine ⟨_, U, _, U, _, U, ?_⟩ | exact VLe.refl _ | refine ⟨_, U, _, _, U, ?_, ?_⟩ | (simp [Sto.upd, upF, h]; done))); done))
      · intro m hm _
        have hs2 := lsum_mem Fm.full (List.getElem_mem hm)
        have hc := ih f.args[m] (nub ks (fre (varsL (f.terms.map (fun t => (t, bl)) ++ (f.args.take m).flatMap (Fm.tms (upF f.kind bl)))))) (upF f.kind bl) (by omega) (by omega) hup0 (by omega) fun p hp => hix p (by rw [htm, varsL_app]; refine List.mem_append_right _ ?_; obtain ⟨q, hq1, hq2⟩ := List.mem_flatMap.1 hp; exact List.mem_flatMap.2 ⟨q, List.mem_flatMap.2 ⟨_, List.getElem_mem hm, hq1⟩, hq2⟩)
        repeat' (first | ((with_reducible refine D.nil ?_); refine AX.nilL ?_) | ((with_reducible refine D.load ?_); first | refine L.ldb U U U U U U ?_ | refine L.lda U U U U U ?_) | ((with_reducible refine D.move ?_); refine L.mv U U U ?_) | ((with_reducible refine D.call ?_); (apply L.cv2 (hc) [0, 1] 0 rfl; rfl; rfl; rfl; rfl; rfl; rfl; rfl; (focus ((repeat' (first | exact trivial | refine And.intro ?_ ?_ | refine ⟨_, U, _, U, _, U, ?_⟩ | exact VLe.refl _ | refine ⟨_, U, _, _, U, ?_, ?_⟩ | with_reducible exact rfl)); done)); rfl; rfl; rfl; rfl)) | ((with_reducible refine D.alloc ?_); refine L.al U U U ?_) | ((with_reducible refine D.store ?_); refine L.st U U U U U U U U U ?_) | ((with_reducible refine D.indexAddr ?_); refine L.ixt _ U U U U U U U (by assumption) ?_) | ((with_reducible refine D.aw ?_); first | refine K.sq (AW.regL ?_) | refine AW.regL ?_) | with_reducible refine K.tN ?_ | with_reducible refine K.bN ?_)
        refine ⟨rfl, trivial, ?_⟩
        exact (Weak.mk [some 0, some 1, some 2] _ _ _ U U U U (by (repeat' (first | exact trivial | refine And.intro ?_ ?_ | refine ⟨_, U, _, U, ?_⟩ | exact VLe.refl _)); done) (by (repeat' (first | exact trivial | refine And.intro ?_ ?_ | refine ⟨_, U, _, U, _, U, ?_⟩ | exact VLe.refl _ | refine ⟨_, U, _, _, U, ?_, ?_⟩ | (simp [Sto.upd, varsL_app, fre_app, nub_app, flat_take _ _ _ hm, ← List.append_assoc]; done))); done))
      · intro _
        skip
        (exact K.n2 [some 0, some 1] U U U U U (by (repeat' (first | exact trivial | refine And.intro ?_ ?_ | refine ⟨_, U, _, U, _, U, ?_⟩ | exact VLe.refl _ | refine ⟨_, U, _, _, U, ?_, ?_⟩ | (simp [Sto.upd, htm]; done))); done) U (by simp [tupV, V.wk, V.wks, constV, Ty.view, Tm.view, htm]))
theorem useKF_wf {f : Fm} (hix : ∀ p ∈ varsL (f.tms 0), 0 ≤ p.1 ∧ p.1 < 9223372036854775808) (hsn : ∀ p ∈ varsL (f.tms 0), 0 ≤ p.2) : ∀ x ∈ useKF f, (Lit.int .i64 x).wf = true := fun x hx => by
  obtain ⟨h0, p, hp, rfl⟩ := mem_useKF.1 hx
  have h2 := hix p hp
  have h3 := hsn p hp
  have h4 : IntKind.i64.min ≤ p.1 - p.2 ∧ p.1 - p.2 ≤ IntKind.i64.max := by
    rw [show IntKind.i64.min = -9223372036854775808 by rfl, show IntKind.i64.max = 9223372036854775807 by rfl]; omega
  simpa [Lit.wf] using h4
theorem usesF_c (f : Fm) (ht : f.full < 137438953472) (hix : f.err = 0 → ∀ p ∈ varsL (f.tms 0), (0 ≤ p.1 ∧ p.1 < 9223372036854775808) ∧ 0 ≤ p.2) : PC E 41 [.agg f.view] (.tup [.s .int (if f.err = 0 then usesFI f else []), .i f.err]) := by
  have h1 := fcheck_c f (by omega)
  have hc : f.err = 0 → _ := fun h => usesFEachF _ f [] 0 (Nat.le_refl _) (by omega) (by omega) (by omega) (fun p hp => (hix h p hp).1)
  have hu : nub [] (fre (varsL (f.tms 0))) = useKF f := rfl
  simp only [List.length_nil, List.replicate_zero, hu] at hc
  have hk : AC E 74 [.mp 0] ⟨1, [(0, .map .bl (useKF f) (List.replicate (useKF f).length true))]⟩ (.fn (.func 143) [] [.ptr 1 0]) ⟨2, [(1, .var [.mp 0]), (0, .map .bl (useKF f) (List.replicate (useKF f).length true))]⟩ := mapKeys_c (Nat.lt_succ_self 0)
  have hlen := useKF_size f
  have hsz := f.size_le_full
  have hs : f.err = 0 → AC E 73 [.fn (.func 143) [] [.ptr 0 0]] ⟨2, [(0, .var [.mp 1]), (1, .map .bl (useKF f) (List.replicate (useKF f).length true))]⟩ (.s .int (usesFI f)) ⟨2, [(0, .var [.mp 1]), (1, .map .bl (useKF f) (List.replicate (useKF f).length true))]⟩ :=
    fun h => sorted_c (c := .bl) rfl rfl (useKF_nodup f) (useKF_wf (fun p hp => (hix h p hp).1) (fun p hp => (hix h p hp).2)) (by omega)
  refine AC.mk Tryz.func41 rfl rfl rfl rfl rfl (Nat.le_of_ble_eq_true rfl) ?_
  repeat' (first | ((with_reducible refine D.nil ?_); refine AX.nilL ?_) | ((with_reducible refine D.load ?_); refine L.ldb U U U U U U ?_) | ((with_reducible refine D.move ?_); refine L.mv U U U ?_) | ((with_reducible refine D.assign ?_); refine L.asg U U U ?_) | ((with_reducible refine D.bin ?_); refine L.bn U U U U U ?_) | ((with_reducible refine D.call ?_); first | refine L.c2 (h1) U U U U ?_ | (apply L.cb2 (hc (by simpa using h)) [2, 1] 0 rfl; rfl; rfl; rfl; rfl; rfl; rfl; (focus ((repeat' (first | exact trivial | refine And.intro ?_ ?_ | refine ⟨_, U, _, U, _, U, ?_⟩ | exact VLe.refl _ | refine ⟨_, U, _, _, U, ?_, ?_⟩ | with_reducible exact rfl)); done)); rfl; rfl; rfl; rfl) | (apply L.cb2 (hk) [1] 1 rfl; rfl; rfl; rfl; rfl; rfl; rfl; (focus ((repeat' (first | exact trivial | refine And.intro ?_ ?_ | refine ⟨_, U, _, _, U, ?_, ?_⟩ | with_reducible exact rfl)); done)); rfl; rfl; rfl; rfl) | (apply L.cb2 (hs (by simpa using h)) [3, 1] 0 rfl; rfl; rfl; rfl; rfl; rfl; rfl; (focus ((repeat' (first | exact trivial | refine And.intro ?_ ?_ | refine ⟨_, U, _, U, _, U, ?_⟩ | exact VLe.refl _ | refine ⟨_, U, _, _, U, ?_, ?_⟩ | with_reducible exact rfl)); done)); rfl; rfl; rfl; rfl)) | ((with_reducible refine D.box ?_); refine L.bx U U U U ?_) | ((with_reducible refine D.alloc ?_); refine L.al U U U ?_) | ((with_reducible refine D.store ?_); refine L.st U U U U U U U U U ?_) | ((with_reducible refine D.ax ?_); first | refine L.mf U U U U ?_ | refine L.mmB U U U U U ?_) | ((with_reducible refine D.aw ?_); first | refine K.sq (AW.regL ?_) | refine K.sq (K.sq ?_) | refine AW.regL ?_ | refine AW.condS U (fun h => ?_) (fun h => ?_) | refine AW.skip ?_ | refine AW.ret ?_) | with_reducible refine K.tN ?_ | with_reducible refine K.tR ?_ | with_reducible refine K.r1 (by with_unfolding_all rfl) (by with_unfolding_all rfl) ?_)
  · have e : ¬ f.err = 0 := by simpa using h
    rw [if_neg e]; simp [tupV, V.wk, V.wks]; rfl
  · have e : f.err = 0 := by simpa using h
    rw [if_pos e]; simp [tupV, V.wk, V.wks, e]
end Go.Ab
namespace Go.Ab
open Go Go.Proofs
set_option maxRecDepth 100000
set_option maxHeartbeats 4000000
set_option linter.all false
theorem liftFmCb (fr by_ : Int) (hat : 0 ≤ fr ∧ fr < 274877906944) (hs : 0 ≤ by_ ∧ by_ < 274877906944) (t : Tm) (bl : Int) (ht : t.full < 274877906944) (hb : 0 ≤ bl ∧ bl < 274877906944) (hix : ∀ p ∈ t.vars 0, 0 ≤ p.1 ∧ p.1 < 549755813888) :
    AC E 154 [.agg t.view, .i bl, .ptr 0 0, .ptr 1 0] ⟨2, [(0, .var [.i fr]), (1, .var [.i by_])]⟩ (.agg (t.re (liftG (fr + bl) by_) 0).view) ⟨2, [(0, .var [.i fr]), (1, .var [.i by_])]⟩ := by
  have hc := lift_c t (fr + bl) by_ (by omega) ht hix
  refine AC.mk Tryz.func154 rfl rfl rfl rfl rfl (Nat.le_of_ble_eq_true rfl) ?_
  repeat' (first | ((with_reducible refine D.nil ?_); refine AX.nilL ?_) | ((with_reducible refine D.load ?_); refine L.ldb U U U U U U ?_) | ((with_reducible refine D.move ?_); refine L.mv U U U ?_) | ((with_reducible refine D.bin ?_); refine L.ad U U U U (by omega) ?_) | ((with_reducible refine D.call ?_); refine L.c2 (hc) U U U U ?_) | ((with_reducible refine D.box ?_); refine L.bx U U U U ?_) | ((with_reducible refine D.alloc ?_); refine L.al U U U ?_) | ((with_reducible refine D.store ?_); refine L.st U U U U U U U U U ?_) | ((with_reducible refine D.aw ?_); first | refine K.sq (AW.regL ?_) | refine AW.ret ?_) | with_reducible refine K.tN ?_)
  (exact K.n2 [some 0, some 1] U U U U U (by (repeat' (first | exact trivial | refine And.intro ?_ ?_ | refine ⟨_, U, _, U, _, U, ?_⟩ | exact VLe.refl _)); done) U (by simp [tupV, V.wk, V.wks, constV, Ty.view, Tm.view, hc]))
theorem liftFmRe (fr by_ : Int) (hat : 0 ≤ fr ∧ fr < 274877906944) (hs : 0 ≤ by_ ∧ by_ < 274877906944) : ∀ (n : Nat) (f : Fm) (bl : Int), f.full ≤ n → n < 274877906944 → 0 ≤ bl → bl + n < 274877906944 → (∀ p ∈ f.tms bl, ∀ q ∈ p.1.vars 0, 0 ≤ q.1 ∧ q.1 < 549755813888) →
    AC E 153 [.agg f.view, .i bl, .fn (.func 154) [] [.ptr 0 0, .ptr 1 0]] ⟨2, [(0, .var [.i fr]), (1, .var [.i by_])]⟩ (.agg (f.re (fun b t => t.re (liftG (fr + b) by_) 0) bl).view) ⟨2, [(0, .var [.i fr]), (1, .var [.i by_])]⟩ := by
  intro n
  induction n with
  | zero => intro f bl h; intros; have := f.full_pos; omega
  | succ n ih =>
  intro f bl hsz hb hbl hbn hix
  have hsz' := f.full_eq
  have hlen := lsum_len Fm.full Fm.full_pos f.args
  have hlen2 := lsum_len Tm.full Tm.full_pos f.terms
  have hty := ownTy_c _ f.ty (Nat.le_refl _) (by omega)
  have hq := quantifier_c f.kind
  have hre := Fm.re_eq (fun b t => t.re (liftG (fr + b) by_) 0) bl f
  have htm := f.tms_eq bl
  refine AC.mk Tryz.func153 rfl rfl rfl rfl rfl (Nat.le_of_ble_eq_true rfl) ?_
  repeat' (first | ((with_reducible refine D.nil ?_); first | refine AX.nilL ?_ | refine AX.nilD (by kernel_rfl) ?_) | ((with_reducible refine D.load ?_); refine L.ldb U U U U U U ?_) | ((with_reducible refine D.move ?_); refine L.mv U U U ?_) | ((with_reducible refine D.fieldAddr ?_); refine L.fab U U U U U ?_) | ((with_reducible refine D.call ?_); first | refine L.lnt U U U U ?_ | refine L.c2 (hty) U U U U ?_) | ((with_reducible refine D.box ?_); refine L.bx U U U U ?_) | ((with_reducible refine D.alloc ?_); refine L.al U U U ?_) | ((with_reducible refine D.store ?_); refine L.st U U U U U U U U U ?_) | ((with_reducible refine D.ax ?_); refine L.bd U U U U U ?_) | ((with_reducible refine D.aw ?_); first | refine K.sq (AW.regL ?_) | refine K.sq (AW.regD mixed (by kernel_rfl) ?_) | refine K.sq (K.sq ?_) | refine AW.regL ?_) | with_reducible refine K.tN ?_)
  refine AW.range f.terms.length (fun m => True)
    (fun m => ([(1, .i bl), (2, .fn (.func 154) [] [.ptr 0 0, .ptr 1 0]), (3, .ptr 2 0), (6, .ptr 3 0), (7, .ptr 4 0), (19, .s .tm f.terms), (20, .i f.terms.length), (21, .i m)], ⟨6, [(0, .var [.i fr]), (1, .var [.i by_]), (2, .var f.view), (3, .var [.i 0, .i 0, .slice .nil (.t .ty []), .slice .nil (.t .tm []), .slice .nil (.t .fm [])]), (4, .var [.i f.kind, .i f.ty.kind, .s .ty f.ty.args, .slice (.own 5) (.t .tm ((f.terms.take m).map ((fun b t => t.re (liftG (fr + b) by_) 0) bl))), .slice .nil (.t .fm [])]), (5, .row)]⟩))
    (by omega) (fun m => rfl) (fun m => rfl) U trivial (Weak.mk [some 0, some 1, some 2, some 3, some 4, none] _ _ _ U U U U (by (repeat' (first | exact trivial | refine And.intro ?_ ?_ | refine ⟨_, U, _, U, ?_⟩ | exact VLe.refl _)); done) (by (repeat' (first | exact trivial | exact Or.inl U | refine And.intro ?_ ?_ | refine ⟨_, U, _, U, _, U, ?_⟩ | exact VLe.refl _)); done)) ?_ ?_
  · intro m hm _
    have hs2 := lsum_mem Tm.full (List.getElem_mem hm)
    have hc := liftFmCb fr by_ hat hs f.terms[m] bl (by omega) (by omega) (fun p hp => hix _ (by rw [htm]; exact List.mem_append_left _ (List.mem_map.2 ⟨_, List.getElem_mem hm, rfl⟩)) p hp)
    repeat' (first | ((with_reducible refine D.nil ?_); first | refine AX.nilL ?_ | refine AX.nilD (by kernel_rfl) ?_) | ((with_reducible refine D.load ?_); first | refine L.ldb U U U U U U ?_ | refine L.lda U U U U U ?_) | ((with_reducible refine D.move ?_); refine L.mv U U U ?_) | ((with_reducible refine D.fieldAddr ?_); refine L.fab U U U U U ?_) | ((with_reducible refine D.call ?_); first | refine L.apt U U U U U U (by first | exact trivial | exact ⟨rfl, trivial⟩) U U (by first | omega | (simp; omega)) ?_ | (apply L.cv2 (hc) [0, 1] 0 rfl; rfl; rfl; rfl; rfl; rfl; rfl; rfl; (focus ((repeat' (first | exact trivial | refine And.intro ?_ ?_ | refine ⟨_, U, _, U, _, U, ?_⟩ | exact VLe.refl _)); done)); rfl; rfl; rfl; rfl)) | ((with_reducible refine D.alloc ?_); refine L.al U U U ?_) | ((with_reducible refine D.store ?_); refine L.st U U U U U U U U U ?_) | ((with_reducible refine D.indexAddr ?_); refine L.ixt _ U U U U U U U (by assumption) ?_) | ((with_reducible refine D.ax ?_); refine L.bs1 U U U U U (EC.fold_of U) U U ?_) | ((with_reducible refine D.aw ?_); first | refine K.sq (AW.regL ?_) | refine AW.regD mixed (by kernel_rfl) ?_) | with_reducible refine K.tN ?_ | with_reducible refine K.bN ?_)
    exact ⟨rfl, trivial, (Weak.mk [some 0, some 1, some 2, some 3, some 4, some 7] _ _ _ U U U U (by (repeat' (first | exact trivial | refine And.intro ?_ ?_ | refine ⟨_, U, _, U, ?_⟩ | exact VLe.refl _)); done) (by (repeat' (first | exact trivial | exact Or.inr ⟨_, U, rfl⟩ | refine And.intro ?_ ?_ | refine ⟨_, U, _, U, _, U, ?_⟩ | exact VLe.refl _ | exact VLe.of_eq (by simp [Sto.upd, map_take _ _ _ hm]))); done))⟩
  · intro _
    simp only [List.take_length]
    cases hqk : quantK f.kind with
    | true =>
      rw [hqk] at hq
      have hu : upF f.kind bl = bl + 1 := by simp [upF, hqk]
      rw [hu] at hre htm
      repeat' (first | ((with_reducible refine D.nil ?_); refine AX.nilL ?_) | ((with_reducible refine D.load ?_); refine L.ldb U U U U U U ?_) | ((with_reducible refine D.move ?_); refine L.mv U U U ?_) | ((with_reducible refine D.fieldAddr ?_); refine L.fab U U U U U ?_) | ((with_reducible refine D.assign ?_); refine L.asg U U U ?_) | ((with_reducible refine D.bin ?_); refine L.ad U U U U (by omega) ?_) | ((with_reducible refine D.call ?_); first | refine L.lnt U U U U ?_ | refine L.c2 (hq) U U U U ?_) | ((with_reducible refine D.aw ?_); first | refine K.sq (K.sq ?_) | refine AW.regL ?_ | refine AW.condT U ?_) | with_reducible refine K.tN ?_)
      refine AW.range f.args.length (fun m => True)
        (fun m => ([(1, .i (bl + 1)), (2, .fn (.func 154) [] [.ptr 0 0, .ptr 1 0]), (3, .ptr 2 0), (6, .ptr 3 0), (7, .ptr 4 0), (41, .s .fm f.args), (42, .i f.args.length), (43, .i m)], ⟨7, [(0, .var [.i fr]), (1, .var [.i by_]), (2, .var f.view), (3, .var [.i 0, .i 0, .slice .nil (.t .ty []), .slice .nil (.t .tm []), .slice .nil (.t .fm [])]), (4, .var [.i f.kind, .i f.ty.kind, .s .ty f.ty.args, .slice (.own 5) (.t .tm (f.terms.map ((fun b t => t.re (liftG (fr + b) by_) 0) bl))), .slice (.own 6) (.t .fm ((f.args.take m).map (Fm.re (fun b t => t.re (liftG (fr + b) by_) 0) (bl + 1))))]), (5, .row), (6, .row)]⟩))
        (by omega) (fun m => rfl) (fun m => rfl) U trivial (Weak.mk [some 0, some 1, some 2, some 3, some 4, some 5, none] _ _ _ U U U U (by (repeat' (first | exact trivial | refine And.intro ?_ ?_ | refine ⟨_, U, _, U, ?_⟩ | exact VLe.refl _)); done) (by (repeat' (first | exact trivial | exact Or.inl U | exact Or.inr ⟨_, U, rfl⟩ | refine And.intro ?_ ?_ | refine ⟨_, U, _, U, _, U, ?_⟩ | exact VLe.refl _)); done)) ?_ ?_
      · intro m hm _
        have hs2 := lsum_mem Fm.full (List.getElem_mem hm)
        have hc := ih f.args[m] (bl + 1) (by omega) (by omega) (by omega) (by omega) (fun p hp => hix p (by rw [htm]; exact List.mem_append_right _ (List.mem_flatMap.2 ⟨_, List.getElem_mem hm, hp⟩)))
        repeat' (first | ((with_reducible refine D.nil ?_); first | refine AX.nilL ?_ | refine AX.nilD (by kernel_rfl) ?_) | ((with_reducible refine D.load ?_); first | refine L.ldb U U U U U U ?_ | refine L.lda U U U U U ?_) | ((with_reducible refine D.move ?_); refine L.mv U U U ?_) | ((with_reducible refine D.fieldAddr ?_); refine L.fab U U U U U ?_) | ((with_reducible refine D.call ?_); first | refine L.apt U U U U U U (by first | exact trivial | exact ⟨rfl, trivial⟩) U U (by first | omega | (simp; omega)) ?_ | (apply L.cv2 (hc) [0, 1] 0 rfl; rfl; rfl; rfl; rfl; rfl; rfl; rfl; (focus ((repeat' (first | exact trivial | refine And.intro ?_ ?_ | refine ⟨_, U, _, U, _, U, ?_⟩ | exact VLe.refl _)); done)); rfl; rfl; rfl; rfl)) | ((with_reducible refine D.alloc ?_); refine L.al U U U ?_) | ((with_reducible refine D.store ?_); refine L.st U U U U U U U U U ?_) | ((with_reducible refine D.indexAddr ?_); refine L.ixt _ U U U U U U U (by assumption) ?_) | ((with_reducible refine D.ax ?_); refine L.bs1 U U U U U (EC.fold_of U) U U ?_) | ((with_reducible refine D.aw ?_); first | refine K.sq (AW.regL ?_) | refine AW.regD mixed (by kernel_rfl) ?_) | with_reducible refine K.tN ?_ | with_reducible refine K.bN ?_)
        exact ⟨rfl, trivial, (Weak.mk [some 0, some 1, some 2, some 3, some 4, some 5, some 8] _ _ _ U U U U (by (repeat' (first | exact trivial | refine And.intro ?_ ?_ | refine ⟨_, U, _, U, ?_⟩ | exact VLe.refl _)); done) (by (repeat' (first | exact trivial | exact Or.inr ⟨_, U, rfl⟩ | refine And.intro ?_ ?_ | refine ⟨_, U, _, U, _, U, ?_⟩ | exact VLe.refl _ | exact VLe.of_eq (by simp [Sto.upd, map_take _ _ _ hm]))); done))⟩
      · intro _
        simp only [List.take_length]
        repeat' (first | ((with_reducible refine D.nil ?_); refine AX.nilL ?_) | ((with_reducible refine D.load ?_); refine L.ldb U U U U U U ?_) | ((with_reducible refine D.store ?_); refine L.st U U U U U U U U U ?_) | ((with_reducible refine D.aw ?_); first | refine K.sq (AW.regL ?_) | refine AW.ret ?_) | with_reducible refine K.tN ?_)
        (exact K.n2 [some 0, some 1] U U U U U (by (repeat' (first | exact trivial | refine And.intro ?_ ?_ | refine ⟨_, U, _, U, _, U, ?_⟩ | exact VLe.refl _)); done) U (by simp [tupV, V.wk, V.wks, constV, Ty.view, Tm.view, hre]))
    | false =>
      rw [hqk] at hq
      have hu : upF f.kind bl = bl := by simp [upF, hqk]
      rw [hu] at hre htm
      repeat' (first | ((with_reducible refine D.nil ?_); refine AX.nilL ?_) | ((with_reducible refine D.load ?_); refine L.ldb U U U U U U ?_) | ((with_reducible refine D.move ?_); refine L.mv U U U ?_) | ((with_reducible refine D.fieldAddr ?_); refine L.fab U U U U U ?_) | ((with_reducible refine D.call ?_); first | refine L.lnt U U U U ?_ | refine L.c2 (hq) U U U U ?_) | ((with_reducible refine D.aw ?_); first | refine K.sq (K.sq ?_) | refine AW.regL ?_ | refine AW.condF U ?_ | refine AW.skip ?_) | with_reducible refine K.tN ?_)
      refine AW.range f.args.length (fun m => True)
        (fun m => ([(1, .i bl), (2, .fn (.func 154) [] [.ptr 0 0, .ptr 1 0]), (3, .ptr 2 0), (6, .ptr 3 0), (7, .ptr 4 0), (41, .s .fm f.args), (42, .i f.args.length), (43, .i m)], ⟨7, [(0, .var [.i fr]), (1, .var [.i by_]), (2, .var f.view), (3, .var [.i 0, .i 0, .slice .nil (.t .ty []), .slice .nil (.t .tm []), .slice .nil (.t .fm [])]), (4, .var [.i f.kind, .i f.ty.kind, .s .ty f.ty.args, .slice (.own 5) (.t .tm (f.terms.map ((fun b t => t.re (liftG (fr + b) by_) 0) bl))), .slice (.own 6) (.t .fm ((f.args.take m).map (Fm.re (fun b t => t.re (liftG (fr + b) by_) 0) bl)))]), (5, .row), (6, .row)]⟩))
        (by omega) (fun m => rfl) (fun m => rfl) U trivial (Weak.mk [some 0, some 1, some 2, some 3, some 4, some 5, none] _ _ _ U U U U (by (repeat' (first | exact trivial | refine And.intro ?_ ?_ | refine ⟨_, U, _, U, ?_⟩ | exact VLe.refl _)); done) (by (repeat' (first | exact trivial | exact Or.inl U | exact Or.inr ⟨_, U, rfl⟩ | refine And.intro ?_ ?_ | refine ⟨_, U, _, U, _, U, ?_⟩ | exact VLe.refl _)); done)) ?_ ?_
      · intro m hm _
        have hs2 := lsum_mem Fm.full (List.getElem_mem hm)
        have hc := ih f.args[m] bl (by omega) (by omega) (by omega) (by omega) (fun p hp => hix p (by rw [htm]; exact List.mem_append_right _ (List.mem_flatMap.2 ⟨_, List.getElem_mem hm, hp⟩)))
        repeat' (first | ((with_reducible refine D.nil ?_); first | refine AX.nilL ?_ | refine AX.nilD (by kernel_rfl) ?_) | ((with_reducible refine D.load ?_); first | refine L.ldb U U U U U U ?_ | refine L.lda U U U U U ?_) | ((with_reducible refine D.move ?_); refine L.mv U U U ?_) | ((with_reducible refine D.fieldAddr ?_); refine L.fab U U U U U ?_) | ((with_reducible refine D.call ?_); first | refine L.apt U U U U U U (by first | exact trivial | exact ⟨rfl, trivial⟩) U U (by first | omega | (simp; omega)) ?_ | (apply L.cv2 (hc) [0, 1] 0 rfl; rfl; rfl; rfl; rfl; rfl; rfl; rfl; (focus ((repeat' (first | exact trivial | refine And.intro ?_ ?_ | refine ⟨_, U, _, U, _, U, ?_⟩ | exact VLe.refl _)); done)); rfl; rfl; rfl; rfl)) | ((with_reducible refine D.alloc ?_); refine L.al U U U ?_) | ((with_reducible refine D.store ?_); refine L.st U U U U U U U U U ?_) | ((with_reducible refine D.indexAddr ?_); refine L.ixt _ U U U U U U U (by assumption) ?_) | ((with_reducible refine D.ax ?_); refine L.bs1 U U U U U (EC.fold_of U) U U ?_) | ((with_reducible refine D.aw ?_); first | refine K.sq (AW.regL ?_) | refine AW.regD mixed (by kernel_rfl) ?_) | with_reducible refine K.tN ?_ | with_reducible refine K.bN ?_)
        exact ⟨rfl, trivial, (Weak.mk [some 0, some 1, some 2, some 3, some 4, some 5, some 8] _ _ _ U U U U (by (repeat' (first | exact trivial | refine And.intro ?_ ?_ | refine ⟨_, U, _, U, ?_⟩ | exact VLe.refl _)); done) (by (repeat' (first | exact trivial | exact Or.inr ⟨_, U, rfl⟩ | refine And.intro ?_ ?_ | refine ⟨_, U, _, U, _, U, ?_⟩ | exact VLe.refl _ | exact VLe.of_eq (by simp [Sto.upd, map_take _ _ _ hm]))); done))⟩
      · intro _
        simp only [List.take_length]
        repeat' (first | ((with_reducible refine D.nil ?_); refine AX.nilL ?_) | ((with_reducible refine D.load ?_); refine L.ldb U U U U U U ?_) | ((with_reducible refine D.store ?_); refine L.st U U U U U U U U U ?_) | ((with_reducible refine D.aw ?_); first | refine K.sq (AW.regL ?_) | refine AW.ret ?_) | with_reducible refine K.tN ?_)
        (exact K.n2 [some 0, some 1] U U U U U (by (repeat' (first | exact trivial | refine And.intro ?_ ?_ | refine ⟨_, U, _, U, _, U, ?_⟩ | exact VLe.refl _)); done) U (by simp [tupV, V.wk, V.wks, constV, Ty.view, Tm.view, hre]))
theorem liftFm_c (f : Fm) (fr by_ : Int) (hat : 0 ≤ fr ∧ fr < 274877906944) (hs : 0 ≤ by_ ∧ by_ < 274877906944) (hf : f.full < 137438953472) (hix : ∀ p ∈ f.tms 0, ∀ q ∈ p.1.vars 0, 0 ≤ q.1 ∧ q.1 < 549755813888) : PC E 98 [.agg f.view, .i fr, .i by_] (.agg (f.lft fr by_).view) := by
  have hc := liftFmRe fr by_ hat hs _ f 0 (Nat.le_refl _) (by omega) (by omega) (by omega) hix
  refine AC.mk Tryz.func98 rfl rfl rfl rfl rfl (Nat.le_of_ble_eq_true rfl) ?_
  repeat' (first | ((with_reducible refine D.nil ?_); refine AX.nilL ?_) | ((with_reducible refine D.load ?_); refine L.ldb U U U U U U ?_) | ((with_reducible refine D.call ?_); (apply L.cv2 (hc) [1, 2] 0 rfl; rfl; rfl; rfl; rfl; rfl; rfl; rfl; (focus ((repeat' (first | exact trivial | refine And.intro ?_ ?_ | refine ⟨_, U, _, U, _, U, ?_⟩ | exact VLe.refl _)); done)); rfl; rfl; rfl; rfl)) | ((with_reducible refine D.box ?_); refine L.bx U U U U ?_) | ((with_reducible refine D.alloc ?_); refine L.al U U U ?_) | ((with_reducible refine D.store ?_); refine L.st U U U U U U U U U ?_) | ((with_reducible refine D.ax ?_); refine L.mf U U U U ?_) | ((with_reducible refine D.aw ?_); first | refine K.sq (AW.regL ?_) | refine AW.ret ?_) | with_reducible refine K.tN ?_ | with_reducible refine K.r1 (by with_unfolding_all rfl) (by with_unfolding_all rfl) ?_)
  rfl
theorem fLift_c (f : Fm) (fr by_ : Int) (hf : f.full < 137438953472) : PC E 28 [.agg f.view, .i fr, .i by_] (.tup [.agg (if liftFErr f fr by_ = 0 then f.lft fr by_ else noFm).view, .i (liftFErr f fr by_)]) := by
  have h1 := fcheck_c f (by omega)
  have h2 := fwithin_c fr
  have h3 := fwithin_c by_
  have h4 := nearFm_c f (by omega)
  have h5 : f.err = 0 → f.near = true → (0 ≤ fr ∧ fr ≤ 4096) → (0 ≤ by_ ∧ by_ ≤ 4096) → _ := fun h hn ha hb => liftFm_c f fr by_ (by omega) (by omega) hf (nearF_lt h hn)
  refine AC.mk Tryz.func28 rfl rfl rfl rfl rfl (Nat.le_of_ble_eq_true rfl) ?_
  repeat' (first | ((with_reducible refine D.nil ?_); refine AX.nilL ?_) | ((with_reducible refine D.load ?_); first | refine L.ldb U U U U U U ?_ | refine AX.sk U U ?_ | ((fail_if_success refine AX.wt U ?_); refine AX.gs U U (fun _ => trivial) (fun h => ?_) (fun h => ?_))) | ((with_reducible refine D.move ?_); first | refine L.mv U U U ?_ | refine AX.sk U U ?_ | ((fail_if_success refine AX.wt U ?_); refine AX.gs U U (fun _ => trivial) (fun h => ?_) (fun h => ?_))) | ((with_reducible refine D.assign ?_); refine L.asg U U U ?_) | ((with_reducible refine D.bin ?_); refine L.bn U U U U U ?_) | ((with_reducible refine D.call ?_); first | refine L.c2 (h1) U U U U ?_ | refine L.c2 (h2) U U U U ?_ | refine L.c2 (h3) U U U U ?_ | refine L.c2 (h4) U U U U ?_ | refine L.c2 (h5 (by simp_all) (by simp_all) (by simp_all) (by simp_all)) U U U U ?_ | refine AX.sk U U ?_) | ((with_reducible refine D.box ?_); refine L.bx U U U U ?_) | ((with_reducible refine D.alloc ?_); refine L.al U U U ?_) | ((with_reducible refine D.store ?_); refine L.st U U U U U U U U U ?_) | ((with_reducible refine D.not ?_); first | refine L.nt U U U ?_ | refine AX.sk U U ?_) | ((with_reducible refine D.pick ?_); refine L.pk U U U U ?_) | ((with_reducible refine D.ax ?_); refine L.bd U U U U U ?_) | ((with_reducible refine D.aw ?_); first | refine K.sq (AW.regL ?_) | refine K.sq (K.sq ?_) | refine AW.regL ?_ | refine AW.condT U ?_ | refine AW.condS U (fun h => ?_) (fun h => ?_) | refine AW.skip ?_ | refine AW.ret ?_) | with_reducible refine K.tN ?_ | with_reducible refine K.tR ?_ | with_reducible refine K.r1 (by with_unfolding_all rfl) (by with_unfolding_all rfl) ?_)
  · have e' : f.err ≠ 0 := by simpa using h
    have e : liftFErr f fr by_ = f.err := by simp only [liftFErr]; rw [if_pos e']
    simp [tupV, V.wk, V.wks, constV, Ty.view, Fm.view, e, noFm, e']
  · rename_i h0
    have e' : ¬ f.err ≠ 0 := by simpa using h0
    have e : liftFErr f fr by_ = 1 := by simp only [liftFErr]; rw [if_neg e', if_pos (.inl (by intro hc; simp [hc] at h))]
    simp [tupV, V.wk, V.wks, constV, Ty.view, Fm.view, e, noFm]
  · rename_i h0 h1
    have e' : ¬ f.err ≠ 0 := by simpa using h0
    have e : liftFErr f fr by_ = 1 := by simp only [liftFErr]; rw [if_neg e', if_pos (.inr (.inl (by intro hc; simp [hc] at h)))]
    simp [tupV, V.wk, V.wks, constV, Ty.view, Fm.view, e, noFm]
  · rename_i h0 h1 h2
    have e' : ¬ f.err ≠ 0 := by simpa using h0
    have e : liftFErr f fr by_ = 1 := by simp only [liftFErr]; rw [if_neg e', if_pos (.inr (.inr (by simpa using h)))]
    simp [tupV, V.wk, V.wks, constV, Ty.view, Fm.view, e, noFm]
  · rename_i h0 h1 h2
    have e' : ¬ f.err ≠ 0 := by simpa using h0
    have e : liftFErr f fr by_ = 0 := by
      simp only [liftFErr]; rw [if_neg e', if_neg]
      rintro (hc | hc | hc)
      · simp at h1; omega
      · simp at h2; omega
      · simp [hc] at h
    simp [tupV, V.wk, V.wks, constV, Ty.view, Fm.view, e, noFm]
theorem fLower_c (f : Fm) (a : Int) (hf : f.full < 137438953472) (hix : ∀ p ∈ f.tms 0, ∀ q ∈ p.1.vars 0, 0 ≤ q.1 ∧ q.1 < 549755813888) : PC E 29 [.agg f.view, .i a] (.tup [.agg (if lowerFErr f a = 0 then f.put a noTm else noFm).view, .i (lowerFErr f a)]) := by
  have h1 := fcheck_c f (by omega)
  have h2 := fwithin_c a
  have h3 : (0 ≤ a ∧ a ≤ 4096) → _ := fun h => countFm_c f a (by omega) (by omega) fun p hp q hq => by have := hix p hp q hq; omega
  have h4 : (0 ≤ a ∧ a ≤ 4096) → _ := fun h => putFm_c f a noTm (by omega) (by simp [noTm, Tm.full, Tm.fulls, Ty.size, Ty.sizes]) (by simp [noTm, Tm.vars, Tm.varss]) hf hix
  refine AC.mk Tryz.func29 rfl rfl rfl rfl rfl (Nat.le_of_ble_eq_true rfl) ?_
  repeat' (first | ((with_reducible refine D.nil ?_); refine AX.nilL ?_) | ((with_reducible refine D.load ?_); refine L.ldb U U U U U U ?_) | ((with_reducible refine D.move ?_); refine L.mv U U U ?_) | ((with_reducible refine D.assign ?_); refine L.asg U U U ?_) | ((with_reducible refine D.bin ?_); refine L.bn U U U U U ?_) | ((with_reducible refine D.call ?_); first | refine L.c2 (h1) U U U U ?_ | refine L.c2 (h2) U U U U ?_ | refine L.c2 (h3 (by simp_all)) U U U U ?_ | refine L.c2 (h4 (by simp_all)) U U U U ?_) | ((with_reducible refine D.box ?_); refine L.bx U U U U ?_) | ((with_reducible refine D.alloc ?_); refine L.al U U U ?_) | ((with_reducible refine D.store ?_); refine L.st U U U U U U U U U ?_) | ((with_reducible refine D.not ?_); refine L.nt U U U ?_) | ((with_reducible refine D.ax ?_); refine L.bd U U U U U ?_) | ((with_reducible refine D.aw ?_); first | refine K.sq (AW.regL ?_) | refine K.sq (K.sq ?_) | refine AW.regL ?_ | refine AW.condS U (fun h => ?_) (fun h => ?_) | refine AW.skip ?_ | refine AW.ret ?_) | with_reducible refine K.tN ?_ | with_reducible refine K.tR ?_ | with_reducible refine K.r1 (by with_unfolding_all rfl) (by with_unfolding_all rfl) ?_)
  · have e' : f.err ≠ 0 := by simpa using h
    have e : lowerFErr f a = f.err := by simp only [lowerFErr]; rw [if_pos e']
    simp [tupV, V.wk, V.wks, constV, Ty.view, Fm.view, e, noFm, e']
  · rename_i h0
    have e' : ¬ f.err ≠ 0 := by simpa using h0
    have e : lowerFErr f a = 1 := by simp only [lowerFErr]; rw [if_neg e', if_pos (by intro hc; simp [hc] at h)]
    simp [tupV, V.wk, V.wks, constV, Ty.view, Fm.view, e, noFm]
  · rename_i h0 h5
    have e' : ¬ f.err ≠ 0 := by simpa using h0
    have e2 : 0 ≤ a ∧ a ≤ 4096 := by simpa using h5
    have e : lowerFErr f a = 6 := by simp only [lowerFErr]; rw [if_neg e', if_neg (fun hc => hc e2), if_pos (by simpa using h)]
    simp [tupV, V.wk, V.wks, constV, Ty.view, Fm.view, e, noFm]
  · rename_i h0 h5
    have e' : ¬ f.err ≠ 0 := by simpa using h0
    have e2 : 0 ≤ a ∧ a ≤ 4096 := by simpa using h5
    have e : lowerFErr f a = 0 := by simp only [lowerFErr]; rw [if_neg e', if_neg (fun hc => hc e2), if_neg (by simpa using h)]
    simp [tupV, V.wk, V.wks, constV, Ty.view, Fm.view, e, noFm]
end Go.Ab
namespace Go.Ab
open Go Go.Proofs
set_option maxRecDepth 100000
set_option maxHeartbeats 4000000
set_option linter.all false
theorem tequation_c (a b : Tm) : PC E 105 [.agg a.view, .agg b.view] (.agg (eqF a b).view) := by
  refine AC.mk Tryz.func105 rfl rfl rfl rfl rfl (Nat.le_of_ble_eq_true rfl) ?_
  repeat' (first | ((with_reducible refine D.nil ?_); refine AX.nilL ?_) | ((with_reducible refine D.load ?_); refine L.ldb U U U U U U ?_) | ((with_reducible refine D.box ?_); refine L.bx U U U U ?_) | ((with_reducible refine D.alloc ?_); refine L.al U U U ?_) | ((with_reducible refine D.store ?_); refine L.st U U U U U U U U U ?_) | ((with_reducible refine D.ax ?_); first | refine L.bd U U U U U ?_ | refine L.bs2 U U U U U (EC.fold_of U) U U U (EC.fold_of U) U U ?_) | ((with_reducible refine D.aw ?_); first | refine K.sq (AW.regL ?_) | refine AW.ret ?_) | with_reducible refine K.tN ?_ | with_reducible refine K.r1 (by with_unfolding_all rfl) (by with_unfolding_all rfl) ?_)
  rfl
theorem tfalse_c : PC E 151 [] (.agg falseF.view) := by
  have h1 := tof_c 4 []
  have h2 := tof_c 5 [.mk 4 0 (.mk 0 []) []]
  have h3 := tequation_c (.mk 4 0 (.mk 0 []) []) (.mk 5 0 (.mk 0 []) [.mk 4 0 (.mk 0 []) []])
  refine AC.mk Tryz.func151 rfl rfl rfl rfl rfl (Nat.le_of_ble_eq_true rfl) ?_
  repeat' (first | ((with_reducible refine D.nil ?_); refine AX.nilL ?_) | ((with_reducible refine D.call ?_); first | refine L.c2 (h1) U U U U ?_ | refine L.c2 (h2) U U U U ?_ | refine L.c2 (h3) U U U U ?_) | ((with_reducible refine D.alloc ?_); refine L.al U U U ?_) | ((with_reducible refine D.store ?_); refine L.st U U U U U U U U U ?_) | ((with_reducible refine D.ax ?_); refine L.bs1 U U U U U (EC.fold_of U) U U ?_) | ((with_reducible refine D.aw ?_); first | refine K.sq (AW.regL ?_) | refine AW.ret ?_) | with_reducible refine K.tN ?_ | with_reducible refine K.r1 (by with_unfolding_all rfl) (by with_unfolding_all rfl) ?_)
  rfl
theorem ffalse_c : PC E 91 [] (.agg falseF.view) := by
  refine AC.mk Tryz.func91 rfl rfl rfl rfl rfl (Nat.le_of_ble_eq_true rfl) ?_
  repeat' (first | ((with_reducible refine D.nil ?_); refine AX.nilL ?_) | ((with_reducible refine D.call ?_); refine L.c2 (tfalse_c) U U U U ?_) | ((with_reducible refine D.alloc ?_); refine L.al U U U ?_) | ((with_reducible refine D.store ?_); refine L.st U U U U U U U U U ?_) | ((with_reducible refine D.aw ?_); first | refine K.sq (AW.regL ?_) | refine AW.ret ?_) | with_reducible refine K.tN ?_ | with_reducible refine K.r1 (by with_unfolding_all rfl) (by with_unfolding_all rfl) ?_)
  rfl
theorem form_c (k : Int) (l : List Fm) : PC E 102 [.i k, .s .fm l] (.agg (Fm.mk k (.mk 0 []) [] l).view) := by
  refine AC.mk Tryz.func102 rfl rfl rfl rfl rfl (Nat.le_of_ble_eq_true rfl) ?_
  repeat' (first | ((with_reducible refine D.nil ?_); refine AX.nilL ?_) | ((with_reducible refine D.move ?_); refine L.mv U U U ?_) | ((with_reducible refine D.alloc ?_); refine L.al U U U ?_) | ((with_reducible refine D.store ?_); refine L.st U U U U U U U U U ?_) | ((with_reducible refine D.ax ?_); refine L.bd U U U U U ?_) | ((with_reducible refine D.aw ?_); first | refine K.sq (AW.regL ?_) | refine AW.ret ?_) | with_reducible refine K.tN ?_ | with_reducible refine K.r1 (by with_unfolding_all rfl) (by with_unfolding_all rfl) ?_)
  rfl
theorem quantified_c (k : Int) (t : Ty) (f : Fm) : PC E 108 [.i k, .agg t.view, .agg f.view] (.agg (Fm.mk k t [] [f]).view) := by
  refine AC.mk Tryz.func108 rfl rfl rfl rfl rfl (Nat.le_of_ble_eq_true rfl) ?_
  repeat' (first | ((with_reducible refine D.nil ?_); refine AX.nilL ?_) | ((with_reducible refine D.load ?_); refine L.ldb U U U U U U ?_) | ((with_reducible refine D.move ?_); refine L.mv U U U ?_) | ((with_reducible refine D.box ?_); refine L.bx U U U U ?_) | ((with_reducible refine D.alloc ?_); refine L.al U U U ?_) | ((with_reducible refine D.store ?_); refine L.st U U U U U U U U U ?_) | ((with_reducible refine D.ax ?_); first | refine L.bd U U U U U ?_ | refine L.bs1 U U U U U (EC.fold_of U) U U ?_) | ((with_reducible refine D.aw ?_); first | refine K.sq (AW.regL ?_) | refine AW.ret ?_) | with_reducible refine K.tN ?_ | with_reducible refine K.r1 (by with_unfolding_all rfl) (by with_unfolding_all rfl) ?_)
  rfl
theorem sized_c (f : Fm) (hf : f.full < 137438953472) : PC E 101 [.agg f.view] (.tup [.agg (if f.err = 0 then f else noFm).view, .i f.err]) := by
  have h1 := fcheck_c f (by omega)
  refine AC.mk Tryz.func101 rfl rfl rfl rfl rfl (Nat.le_of_ble_eq_true rfl) ?_
  repeat' (first | ((with_reducible refine D.nil ?_); refine AX.nilL ?_) | ((with_reducible refine D.load ?_); refine L.ldb U U U U U U ?_) | ((with_reducible refine D.move ?_); refine L.mv U U U ?_) | ((with_reducible refine D.assign ?_); refine L.asg U U U ?_) | ((with_reducible refine D.bin ?_); refine L.bn U U U U U ?_) | ((with_reducible refine D.call ?_); refine L.c2 (h1) U U U U ?_) | ((with_reducible refine D.box ?_); refine L.bx U U U U ?_) | ((with_reducible refine D.alloc ?_); refine L.al U U U ?_) | ((with_reducible refine D.store ?_); refine L.st U U U U U U U U U ?_) | ((with_reducible refine D.ax ?_); refine L.bd U U U U U ?_) | ((with_reducible refine D.aw ?_); first | refine K.sq (AW.regL ?_) | refine K.sq (K.sq ?_) | refine AW.regL ?_ | refine AW.condS U (fun h => ?_) (fun h => ?_) | refine AW.skip ?_ | refine AW.ret ?_) | with_reducible refine K.tN ?_ | with_reducible refine K.tR ?_ | with_reducible refine K.r1 (by with_unfolding_all rfl) (by with_unfolding_all rfl) ?_)
  · have e : ¬ f.err = 0 := by simpa using h
    simp [tupV, V.wk, V.wks, constV, Ty.view, Fm.view, e, noFm]
  · have e : f.err = 0 := by simpa using h
    simp [tupV, V.wk, V.wks, constV, Ty.view, Fm.view, e, noFm]
theorem not_c (f : Fm) (hf : f.full < 68719476736) (he : f.err = 0) : PC E 31 [.agg f.view] (.tup [.agg (if (notF f).err = 0 then notF f else noFm).view, .i (notF f).err]) := by
  have h1 := fcheck_c f (by omega)
  rw [he] at h1
  have h2 := ownFm_c f (by omega)
  have h3 := form_c 3 [f, falseF]
  have h4 := sized_c (notF f) (by simp [notF, falseF, eqF, Fm.full, Fm.fulls, Tm.fulls, Tm.full, Ty.size, Ty.sizes]; omega)
  refine AC.mk Tryz.func31 rfl rfl rfl rfl rfl (Nat.le_of_ble_eq_true rfl) ?_
  repeat' (first | ((with_reducible refine D.nil ?_); refine AX.nilL ?_) | ((with_reducible refine D.load ?_); refine L.ldb U U U U U U ?_) | ((with_reducible refine D.move ?_); refine L.mv U U U ?_) | ((with_reducible refine D.assign ?_); refine L.asg U U U ?_) | ((with_reducible refine D.bin ?_); refine L.bn U U U U U ?_) | ((with_reducible refine D.call ?_); first | refine L.c2 (h1) U U U U ?_ | refine L.c2 (h2) U U U U ?_ | refine L.c2 (ffalse_c) U U U U ?_ | refine L.c2 (h3) U U U U ?_ | refine L.c2 (h4) U U U U ?_) | ((with_reducible refine D.extract ?_); refine L.ex U U U U ?_) | ((with_reducible refine D.box ?_); refine L.bx U U U U ?_) | ((with_reducible refine D.alloc ?_); refine L.al U U U ?_) | ((with_reducible refine D.store ?_); refine L.st U U U U U U U U U ?_) | ((with_reducible refine D.ax ?_); refine L.bs2 U U U U U (EC.fold_of U) U U U (EC.fold_of U) U U ?_) | ((with_reducible refine D.aw ?_); first | refine K.sq (AW.regL ?_) | refine K.sq (K.sq ?_) | refine AW.regL ?_ | refine AW.condF U ?_ | refine AW.skip ?_ | refine AW.ret ?_) | with_reducible refine K.tN ?_ | with_reducible refine K.r1 (by with_unfolding_all rfl) (by with_unfolding_all rfl) ?_)
  rfl
theorem orZero_c : PC E 104 [] (.agg zeroF.view) := by
  have h1 := tvar_c 0
  have h2 := tof_c 4 []
  have h3 := tequation_c (.mk 1 0 (.mk 0 []) []) (.mk 4 0 (.mk 0 []) [])
  refine AC.mk Tryz.func104 rfl rfl rfl rfl rfl (Nat.le_of_ble_eq_true rfl) ?_
  repeat' (first | ((with_reducible refine D.nil ?_); refine AX.nilL ?_) | ((with_reducible refine D.call ?_); first | refine L.c2 (h1) U U U U ?_ | refine L.c2 (h2) U U U U ?_ | refine L.c2 (h3) U U U U ?_) | ((with_reducible refine D.alloc ?_); refine L.al U U U ?_) | ((with_reducible refine D.store ?_); refine L.st U U U U U U U U U ?_) | ((with_reducible refine D.aw ?_); first | refine K.sq (AW.regL ?_) | refine AW.ret ?_) | with_reducible refine K.tN ?_ | with_reducible refine K.r1 (by with_unfolding_all rfl) (by with_unfolding_all rfl) ?_)
  rfl
theorem or_c (a b : Fm) (ha : liftFErr a 0 1 = 0) (hb : liftFErr b 0 1 = 0) (fa : a.full < 34359738368) (fb : b.full < 34359738368) (fl : (a.lft 0 1).full ≤ a.full) (fl' : (b.lft 0 1).full ≤ b.full) : PC E 32 [.agg a.view, .agg b.view] (.tup [.agg (if (orF (a.lft 0 1) (b.lft 0 1)).err = 0 then orF (a.lft 0 1) (b.lft 0 1) else noFm).view, .i (orF (a.lft 0 1) (b.lft 0 1)).err]) := by
  have h1 := fLift_c a 0 1 (by omega)
  have h2 := fLift_c b 0 1 (by omega)
  rw [ha, if_pos rfl] at h1
  rw [hb, if_pos rfl] at h2
  generalize a.lft 0 1 = x at *
  generalize b.lft 0 1 = y at *
  have h3 := form_c 3 [zeroF, x]
  have h4 := form_c 3 [zeroF, falseF]
  have h5 := form_c 3 [.mk 3 (.mk 0 []) [] [zeroF, falseF], y]
  have h6 := form_c 2 [.mk 3 (.mk 0 []) [] [zeroF, x], .mk 3 (.mk 0 []) [] [.mk 3 (.mk 0 []) [] [zeroF, falseF], y]]
  have h7 := quantified_c 5 natT (.mk 2 (.mk 0 []) [] [.mk 3 (.mk 0 []) [] [zeroF, x], .mk 3 (.mk 0 []) [] [.mk 3 (.mk 0 []) [] [zeroF, falseF], y]])
  have h8 := sized_c (orF x y) (by simp [orF, zeroF, natT, falseF, eqF, Fm.full, Fm.fulls, Tm.fulls, Tm.full, Ty.size, Ty.sizes]; omega)
  refine AC.mk Tryz.func32 rfl rfl rfl rfl rfl (Nat.le_of_ble_eq_true rfl) ?_
  repeat' (first | ((with_reducible refine D.nil ?_); first | refine AX.nilL ?_ | refine AX.nilD (by kernel_rfl) ?_) | ((with_reducible refine D.load ?_); refine L.ldb U U U U U U ?_) | ((with_reducible refine D.move ?_); refine L.mv U U U ?_) | ((with_reducible refine D.assign ?_); refine L.asg U U U ?_) | ((with_reducible refine D.bin ?_); refine L.bn U U U U U ?_) | ((with_reducible refine D.call ?_); first | refine L.c2 (h1) U U U U ?_ | refine L.c2 (h2) U U U U ?_ | (apply L.cv2 (orZero_c) [] 0 rfl; rfl; rfl; rfl; rfl; rfl; rfl; rfl; (focus ((repeat' (first | exact trivial)); done)); rfl; rfl; rfl; rfl) | refine L.c2 (ffalse_c) U U U U ?_ | refine L.c2 (h3) U U U U ?_ | refine L.c2 (h4) U U U U ?_ | refine L.c2 (h5) U U U U ?_ | refine L.c2 (h6) U U U U ?_ | refine L.c2 (tnat_c) U U U U ?_ | refine L.c2 (h7) U U U U ?_ | refine L.c2 (h8) U U U U ?_) | ((with_reducible refine D.extract ?_); refine L.ex U U U U ?_) | ((with_reducible refine D.box ?_); refine L.bx U U U U ?_) | ((with_reducible refine D.alloc ?_); refine L.al U U U ?_) | ((with_reducible refine D.store ?_); refine L.st U U U U U U U U U ?_) | ((with_reducible refine D.ax ?_); refine L.bs2 U U U U U (EC.fold_of U) U U U (EC.fold_of U) U U ?_) | ((with_reducible refine D.aw ?_); first | refine K.sq (AW.regL ?_) | refine K.sq (AW.regD mixed (by kernel_rfl) ?_) | refine K.sq (K.sq ?_) | refine AW.regL ?_ | refine AW.condF U ?_ | refine AW.skip ?_ | refine AW.ret ?_) | with_reducible refine K.tN ?_ | with_reducible refine K.r1 (by with_unfolding_all rfl) (by with_unfolding_all rfl) ?_)
  rfl
end Go.Ab
namespace Go.Ab
open Go Go.Proofs
set_option maxRecDepth 100000
set_option maxHeartbeats 4000000
set_option linter.all false
theorem with_c (g : List Ty) (th : Ty) (hg : g.length < 274877906944) (hl : th.size < 274877906944) : PC E 161 [.s .sz (g.map ofT), .s .ty [th]] (.s .sz ((g ++ [th]).map ofT)) := by
  have h1 := from_c [th] (by simp; omega)
  simp only [List.map_cons, List.map_nil] at h1
  refine AC.mk Tryz.func161 rfl rfl rfl rfl rfl (Nat.le_of_ble_eq_true rfl) ?_
  repeat' (first | ((with_reducible refine D.nil ?_); first | refine AX.nilL ?_ | refine AX.nilD (by kernel_rfl) ?_) | ((with_reducible refine D.move ?_); refine L.mv U U U ?_) | ((with_reducible refine D.assign ?_); refine L.asg U U U ?_) | ((with_reducible refine D.call ?_); first | refine L.lnt U U U U ?_ | refine L.aptF U U U U (by first | assumption | simp) U U U (by first | omega | (simp; omega)) ?_ | refine L.c2 (h1) U U U U ?_) | ((with_reducible refine D.ax ?_); refine L.s3 U U U U U U ?_) | ((with_reducible refine D.aw ?_); first | refine K.sq (AW.regL ?_) | refine K.sq (AW.regD mixed (by kernel_rfl) ?_) | refine AW.ret ?_) | with_reducible refine K.tN ?_ | with_reducible refine K.r1 (by with_unfolding_all rfl) (by with_unfolding_all rfl) ?_)
  simp [tupV, V.wk, V.wks]
theorem tnumber_c (g : List Ty) (t : Tm) (ht : t.err = 0) (hf : t.full < 137438953472) (hg : ∀ x ∈ g, x.err = 0) (hl : g.length < 68719476736) : PC E 162 [.s .sz (g.map ofT), .agg t.view] (.i (tE g t)) := by
  have h1 : PC E 201 [.s .sz (g.map ofT), .agg t.view] (.tup [.agg (ofT (t.inf g).1).view, .i (t.inf g).2]) := ctypeOf_c _ t g (Nat.le_refl _) (err_zero ht).1 hg (by omega)
  have h2 := is_c (ofT (t.inf g).1) 1
  have e : tE g t = if (t.inf g).2 ≠ 0 then (t.inf g).2 else if (t.inf g).1.kind ≠ 1 then 7 else 0 := by
    have ty : typed g t = t.inf g := by simp only [typed]; rw [if_neg (by simp [ht])]
    unfold tE; rw [ty]
  have hh : PC E 181 [.s .sz (g.map ofT), .agg t.view, .i 1] (.i (tE g t)) := by
    rw [e]
    generalize t.inf g = r at *
    obtain ⟨u, q⟩ := r
    simp only at h1 h2 ⊢
    by_cases hq : q = 0
    · subst hq
      by_cases hk : u.kind = 1
      · rw [show ((ofT u).ty.kind == 1) = true by simp [ofT, hk]] at h2
        refine AC.mk Tryz.func181 rfl rfl rfl rfl rfl (Nat.le_of_ble_eq_true rfl) ?_
        repeat' (first | ((with_reducible refine D.nil ?_); refine AX.nilL ?_) | ((with_reducible refine D.load ?_); refine L.ldb U U U U U U ?_) | ((with_reducible refine D.move ?_); refine L.mv U U U ?_) | ((with_reducible refine D.assign ?_); refine L.asg U U U ?_) | ((with_reducible refine D.bin ?_); refine L.bn U U U U U ?_) | ((with_reducible refine D.call ?_); first | refine L.c2 (h1) U U U U ?_ | refine L.c2 (h2) U U U U ?_) | ((with_reducible refine D.extract ?_); refine L.ex U U U U ?_) | ((with_reducible refine D.box ?_); refine L.bx U U U U ?_) | ((with_reducible refine D.alloc ?_); refine L.al U U U ?_) | ((with_reducible refine D.store ?_); refine L.st U U U U U U U U U ?_) | ((with_reducible refine D.not ?_); refine L.nt U U U ?_) | ((with_reducible refine D.pick ?_); refine L.pk U U U U ?_) | ((with_reducible refine D.aw ?_); first | refine K.sq (AW.regL ?_) | refine K.sq (K.sq ?_) | refine AW.regL ?_ | refine AW.condF U ?_ | refine AW.skip ?_ | refine AW.ret ?_) | with_reducible refine K.tN ?_ | with_reducible refine K.r1 (by with_unfolding_all rfl) (by with_unfolding_all rfl) ?_)
        simp [tupV, V.wk, V.wks, hk]
      · rw [show ((ofT u).ty.kind == 1) = false by simp [ofT, hk]] at h2
        refine AC.mk Tryz.func181 rfl rfl rfl rfl rfl (Nat.le_of_ble_eq_true rfl) ?_
        repeat' (first | ((with_reducible refine D.nil ?_); refine AX.nilL ?_) | ((with_reducible refine D.load ?_); refine L.ldb U U U U U U ?_) | ((with_reducible refine D.move ?_); refine L.mv U U U ?_) | ((with_reducible refine D.assign ?_); refine L.asg U U U ?_) | ((with_reducible refine D.bin ?_); refine L.bn U U U U U ?_) | ((with_reducible refine D.call ?_); first | refine L.c2 (h1) U U U U ?_ | refine L.c2 (h2) U U U U ?_) | ((with_reducible refine D.extract ?_); refine L.ex U U U U ?_) | ((with_reducible refine D.box ?_); refine L.bx U U U U ?_) | ((with_reducible refine D.alloc ?_); refine L.al U U U ?_) | ((with_reducible refine D.store ?_); refine L.st U U U U U U U U U ?_) | ((with_reducible refine D.not ?_); refine L.nt U U U ?_) | ((with_reducible refine D.pick ?_); refine L.pk U U U U ?_) | ((with_reducible refine D.aw ?_); first | refine K.sq (AW.regL ?_) | refine K.sq (K.sq ?_) | refine AW.regL ?_ | refine AW.condT U ?_ | refine AW.ret ?_) | with_reducible refine K.tN ?_ | with_reducible refine K.tR ?_ | with_reducible refine K.r1 (by with_unfolding_all rfl) (by with_unfolding_all rfl) ?_)
        simp [tupV, V.wk, V.wks, hk]
    · refine AC.mk Tryz.func181 rfl rfl rfl rfl rfl (Nat.le_of_ble_eq_true rfl) ?_
      repeat' (first | ((with_reducible refine D.nil ?_); refine AX.nilL ?_) | ((with_reducible refine D.load ?_); first | refine L.ldb U U U U U U ?_ | refine AX.sk U U ?_ | ((fail_if_success refine AX.wt U ?_); refine AX.gs U U (fun _ => trivial) (fun h => ?_) (fun h => ?_))) | ((with_reducible refine D.move ?_); first | refine L.mv U U U ?_ | refine AX.sk U U ?_) | ((with_reducible refine D.assign ?_); refine L.asg U U U ?_) | ((with_reducible refine D.bin ?_); refine L.bn U U U U U ?_) | ((with_reducible refine D.call ?_); first | refine L.c2 (h1) U U U U ?_ | refine L.c2 (h2) U U U U ?_ | refine AX.sk U U ?_) | ((with_reducible refine D.extract ?_); refine L.ex U U U U ?_) | ((with_reducible refine D.box ?_); refine L.bx U U U U ?_) | ((with_reducible refine D.alloc ?_); refine L.al U U U ?_) | ((with_reducible refine D.store ?_); refine L.st U U U U U U U U U ?_) | ((with_reducible refine D.not ?_); first | refine L.nt U U U ?_ | refine AX.sk U U ?_) | ((with_reducible refine D.pick ?_); refine L.pk U U U U ?_) | ((with_reducible refine D.aw ?_); first | refine K.sq (AW.regL ?_) | refine K.sq (K.sq ?_) | refine AW.regL ?_ | refine AW.condF U ?_ | refine AW.condS U (fun h => ?_) (fun h => ?_) | refine AW.skip ?_ | refine AW.ret ?_) | with_reducible refine K.tN ?_ | with_reducible refine K.tR ?_ | with_reducible refine K.r1 (by with_unfolding_all rfl) (by with_unfolding_all rfl) ?_)
      all_goals first
        | (simp [tupV, V.wk, V.wks, hq]; done)
        | (exfalso; simp_all; done)
  refine AC.mk Tryz.func162 rfl rfl rfl rfl rfl (Nat.le_of_ble_eq_true rfl) ?_
  repeat' (first | ((with_reducible refine D.nil ?_); refine AX.nilL ?_) | ((with_reducible refine D.load ?_); refine L.ldb U U U U U U ?_) | ((with_reducible refine D.move ?_); refine L.mv U U U ?_) | ((with_reducible refine D.assign ?_); refine L.asg U U U ?_) | ((with_reducible refine D.call ?_); refine L.c2 (hh) U U U U ?_) | ((with_reducible refine D.box ?_); refine L.bx U U U U ?_) | ((with_reducible refine D.aw ?_); first | refine K.sq (AW.regL ?_) | refine AW.ret ?_) | with_reducible refine K.tN ?_ | with_reducible refine K.r1 (by with_unfolding_all rfl) (by with_unfolding_all rfl) ?_)
  simp [tupV, V.wk, V.wks, constV, Ty.view, Tm.view]
theorem cformula_c : ∀ (n : Nat) (f : Fm) (g : List Ty), f.full ≤ n → n < 68719476736 → f.shape = true → f.size ≤ 4096 → (∀ x ∈ g, x.err = 0) → g.length + n < 68719476736 → PC E 113 [.s .sz (g.map ofT), .agg f.view] (.i (f.tyE g)) := by
  intro n
  induction n with
  | zero => intro f; intros; have := f.full_pos; omega
  | succ n ih =>
  intro f g hsz hn hs hz hg hgl
  have hsz' := f.full_eq
  have hzz := f.size_eq
  have hlen := lsum_len Fm.full Fm.full_pos f.args
  have hlen2 := lsum_len Tm.full Tm.full_pos f.terms
  have he := Fm.tyE_eq g f
  have sa := fun x (hx : x ∈ f.args) => fshape_args hs hx
  have st := fun t (ht : t ∈ f.terms) => fshape_terms hs ht
  have hkk := fshape_kinds hs
  obtain ⟨k, th, ts, xs⟩ := f
  simp only [Fm.kind_mk, Fm.ty_mk, Fm.terms_mk, Fm.args_mk] at *
  have args : ∀ (g' : List Ty), (∀ x ∈ g', x.err = 0) → g'.length + n < 68719476736 → ∀ m (hm : m < xs.length), PC E 113 [.s .sz (g'.map ofT), .agg xs[m].view] (.i (xs[m].tyE g')) := fun g' h' hl' m hm => by
    have h1 := lsum_mem Fm.full (List.getElem_mem hm)
    have h2 := lsum_mem Fm.size (List.getElem_mem hm)
    exact ih xs[m] g' (by omega) (by omega) (sa _ (List.getElem_mem hm)) (by omega) h' hl'
  have hw := with_c g th (by omega) (by omega)
  rcases hkk with ⟨rfl, rfl⟩ | ⟨hk, rfl⟩ | ⟨hk, rfl, hth⟩
  · replace he : Fm.tyE g (Fm.mk 1 th ts []) = firstI (tE g) ts := by
      rw [he]; by_cases hx : firstI (tE g) ts = 0 <;> simp [hx, firstI]
    refine AC.mk Tryz.func113 rfl rfl rfl rfl rfl (Nat.le_of_ble_eq_true rfl) ?_
    repeat' (first | ((with_reducible refine D.nil ?_); refine AX.nilL ?_) | ((with_reducible refine D.load ?_); refine L.ldb U U U U U U ?_) | ((with_reducible refine D.fieldAddr ?_); refine L.fab U U U U U ?_) | ((with_reducible refine D.assign ?_); refine L.asg U U U ?_) | ((with_reducible refine D.box ?_); refine L.bx U U U U ?_) | ((with_reducible refine D.aw ?_); first | ((with_reducible refine D.sblk ?_); refine K.sq (AW.block ?_)) | ((with_reducible refine D.blk ?_); refine AW.block ?_) | refine K.sq (AW.regL ?_) | refine K.sq (K.sq ?_) | refine AW.regL ?_) | with_reducible refine K.tN ?_)
    refine K.sq (AW.block ?_)
    repeat' (first | ((with_reducible refine D.nil ?_); refine AX.nilL ?_) | ((with_reducible refine D.load ?_); refine L.ldb U U U U U U ?_) | ((with_reducible refine D.move ?_); refine L.mv U U U ?_) | ((with_reducible refine D.fieldAddr ?_); refine L.fab U U U U U ?_) | ((with_reducible refine D.assign ?_); refine L.asg U U U ?_) | ((with_reducible refine D.bin ?_); refine L.bn U U U U U ?_) | ((with_reducible refine D.call ?_); refine L.lnt U U U U ?_) | ((with_reducible refine D.aw ?_); first | ((with_reducible refine D.blk ?_); refine AW.block ?_) | refine K.sq (AW.regL ?_) | refine K.sq (K.sq ?_) | refine AW.regL ?_ | refine AW.condF U ?_ | refine AW.skip ?_ | refine AW.exit ?_) | with_reducible refine K.tN ?_ | with_reducible refine K.tE ?_ | with_reducible refine K.bX (by with_unfolding_all rfl) ?_ | with_reducible refine K.bO (by with_unfolding_all rfl) ?_)
    refine AW.range ts.length (fun m => ∀ j (hj : j < ts.length), j < m → tE g ts[j] = 0)
      (fun m => ([(0, .s .sz (g.map ofT)), (3, .ptr 0 0), (42, .s .tm ts), (43, .i ts.length), (44, .i m)], ⟨1, [(0, .var (Fm.mk 1 th ts []).view)]⟩))
      (by omega) (fun m => rfl) (fun m => rfl) U (fun j hj h => by omega) (Weak.mk [some 0] _ _ _ U U U U (by (repeat' (first | exact trivial | refine And.intro ?_ ?_ | refine ⟨_, U, _, U, ?_⟩ | exact VLe.refl _)); done) (by (repeat' (first | exact trivial | refine And.intro ?_ ?_ | refine ⟨_, U, _, U, _, U, ?_⟩ | exact VLe.refl _)); done)) ?_ ?_
    · intro m hm hP
      have h1 := lsum_mem Tm.full (List.getElem_mem hm)
      have h2 := lsum_mem Tm.size (List.getElem_mem hm)
      have hc := tnumber_c g ts[m] ((Tm.err_iff _).2 ⟨st _ (List.getElem_mem hm), by omega⟩) (by omega) hg (by omega)
      repeat' (first | ((with_reducible refine D.nil ?_); refine AX.nilL ?_) | ((with_reducible refine D.load ?_); first | refine L.ldb U U U U U U ?_ | refine L.lda U U U U U ?_) | ((with_reducible refine D.move ?_); refine L.mv U U U ?_) | ((with_reducible refine D.assign ?_); refine L.asg U U U ?_) | ((with_reducible refine D.bin ?_); refine L.bn U U U U U ?_) | ((with_reducible refine D.call ?_); refine L.c2 (hc) U U U U ?_) | ((with_reducible refine D.alloc ?_); refine L.al U U U ?_) | ((with_reducible refine D.store ?_); refine L.st U U U U U U U U U ?_) | ((with_reducible refine D.indexAddr ?_); refine L.ixt _ U U U U U U U (by assumption) ?_) | ((with_reducible refine D.aw ?_); first | refine K.sq (AW.regL ?_) | refine AW.condS U (fun h => ?_) (fun h => ?_) | refine AW.skip ?_ | refine AW.ret ?_) | with_reducible refine K.tN ?_ | with_reducible refine K.bN ?_ | with_reducible refine K.tR ?_ | with_reducible refine K.bR ?_ | with_reducible refine K.gR ?_ | with_reducible refine K.r1 (by with_unfolding_all rfl) (by with_unfolding_all rfl) ?_)
      · have hx : tE g ts[m] ≠ 0 := by simpa using h
        rw [he, firstI_at hm hP hx]
        rfl
      · exact ⟨rfl, all_step (p := fun x => tE g x = 0) hm hP (by simpa using h), (Weak.mk [some 0] _ _ _ U U U U (by (repeat' (first | exact trivial | refine And.intro ?_ ?_ | refine ⟨_, U, _, U, ?_⟩ | exact VLe.refl _)); done) (by (repeat' (first | exact trivial | refine And.intro ?_ ?_ | refine ⟨_, U, _, U, _, U, ?_⟩ | exact VLe.refl _)); done))⟩
    · intro hP
      rw [he, firstI_none (f := tE g) fun j hj _ => hP j hj hj]
      repeat' (first | ((with_reducible refine D.nil ?_); refine AX.nilL ?_) | ((with_reducible refine D.assign ?_); refine L.asg U U U ?_) | ((with_reducible refine D.aw ?_); first | refine K.sq (AW.regL ?_) | refine AW.ret ?_) | with_reducible refine K.tN ?_ | with_reducible refine K.r1 (by with_unfolding_all rfl) (by with_unfolding_all rfl) ?_)
      rfl
  · have e0 : ctxF g (Fm.mk k th [] xs) = g := by simp only [ctxF, quantK, Fm.kind_mk]; rcases hk with rfl | rfl <;> rfl
    rw [e0] at he
    replace he : Fm.tyE g (Fm.mk k th [] xs) = firstI (Fm.tyE g) xs := by rw [he]; simp [firstI]
    rcases hk with rfl | rfl
    · refine AC.mk Tryz.func113 rfl rfl rfl rfl rfl (Nat.le_of_ble_eq_true rfl) ?_
      repeat' (first | ((with_reducible refine D.nil ?_); refine AX.nilL ?_) | ((with_reducible refine D.load ?_); refine L.ldb U U U U U U ?_) | ((with_reducible refine D.fieldAddr ?_); refine L.fab U U U U U ?_) | ((with_reducible refine D.assign ?_); refine L.asg U U U ?_) | ((with_reducible refine D.box ?_); refine L.bx U U U U ?_) | ((with_reducible refine D.aw ?_); first | ((with_reducible refine D.sblk ?_); refine K.sq (AW.block ?_)) | ((with_reducible refine D.blk ?_); refine AW.block ?_) | refine K.sq (AW.regL ?_) | refine K.sq (K.sq ?_) | refine AW.regL ?_) | with_reducible refine K.tN ?_)
      refine K.sq (AW.block ?_)
      repeat' (first | ((with_reducible refine D.nil ?_); refine AX.nilL ?_) | ((with_reducible refine D.load ?_); refine L.ldb U U U U U U ?_) | ((with_reducible refine D.move ?_); refine L.mv U U U ?_) | ((with_reducible refine D.fieldAddr ?_); refine L.fab U U U U U ?_) | ((with_reducible refine D.assign ?_); refine L.asg U U U ?_) | ((with_reducible refine D.bin ?_); refine L.bn U U U U U ?_) | ((with_reducible refine D.call ?_); refine L.lnt U U U U ?_) | ((with_reducible refine D.aw ?_); first | ((with_reducible refine D.blk ?_); refine AW.block ?_) | refine K.sq (AW.regL ?_) | refine K.sq (K.sq ?_) | refine AW.regL ?_ | refine AW.condT U ?_ | refine AW.condF U ?_ | refine AW.skip ?_ | refine AW.exit ?_) | with_reducible refine K.tN ?_ | with_reducible refine K.tE ?_ | with_reducible refine K.bX (by with_unfolding_all rfl) ?_ | with_reducible refine K.bO (by with_unfolding_all rfl) ?_)
      refine AW.range xs.length (fun m => ∀ j (hj : j < xs.length), j < m → xs[j].tyE (g) = 0)
        (fun m => ([(0, .s .sz ((g).map ofT)), (3, .ptr 0 0), (28, .s .fm xs), (29, .i xs.length), (30, .i m)], ⟨1, [(0, .var (Fm.mk 2 th [] xs).view)]⟩))
        (by omega) (fun m => rfl) (fun m => rfl) U (fun j hj h => by omega) (Weak.mk [some 0] _ _ _ U U U U (by (repeat' (first | exact trivial | refine And.intro ?_ ?_ | refine ⟨_, U, _, U, ?_⟩ | exact VLe.refl _)); done) (by (repeat' (first | exact trivial | refine And.intro ?_ ?_ | refine ⟨_, U, _, U, _, U, ?_⟩ | exact VLe.refl _)); done)) ?_ ?_
      · intro m hm hP
        have hc := args (g) hg (by omega) m hm
        repeat' (first | ((with_reducible refine D.nil ?_); refine AX.nilL ?_) | ((with_reducible refine D.load ?_); first | refine L.ldb U U U U U U ?_ | refine L.lda U U U U U ?_) | ((with_reducible refine D.move ?_); refine L.mv U U U ?_) | ((with_reducible refine D.assign ?_); refine L.asg U U U ?_) | ((with_reducible refine D.bin ?_); refine L.bn U U U U U ?_) | ((with_reducible refine D.call ?_); refine L.c2 (hc) U U U U ?_) | ((with_reducible refine D.alloc ?_); refine L.al U U U ?_) | ((with_reducible refine D.store ?_); refine L.st U U U U U U U U U ?_) | ((with_reducible refine D.indexAddr ?_); refine L.ixt _ U U U U U U U (by assumption) ?_) | ((with_reducible refine D.aw ?_); first | refine K.sq (AW.regL ?_) | refine AW.condS U (fun h => ?_) (fun h => ?_) | refine AW.skip ?_ | refine AW.ret ?_) | with_reducible refine K.tN ?_ | with_reducible refine K.bN ?_ | with_reducible refine K.tR ?_ | with_reducible refine K.bR ?_ | with_reducible refine K.gR ?_ | with_reducible refine K.r1 (by with_unfolding_all rfl) (by with_unfolding_all rfl) ?_)
        · have hx : xs[m].tyE (g) ≠ 0 := by simpa using h
          rw [he, firstI_at hm hP hx]
          rfl
        · exact ⟨rfl, all_step (p := fun x => Fm.tyE (g) x = 0) hm hP (by simpa using h), (Weak.mk [some 0] _ _ _ U U U U (by (repeat' (first | exact trivial | refine And.intro ?_ ?_ | refine ⟨_, U, _, U, ?_⟩ | exact VLe.refl _)); done) (by (repeat' (first | exact trivial | refine And.intro ?_ ?_ | refine ⟨_, U, _, U, _, U, ?_⟩ | exact VLe.refl _)); done))⟩
      · intro hP
        rw [he, firstI_none (f := Fm.tyE (g)) fun j hj _ => hP j hj hj]
        repeat' (first | ((with_reducible refine D.nil ?_); refine AX.nilL ?_) | ((with_reducible refine D.assign ?_); refine L.asg U U U ?_) | ((with_reducible refine D.aw ?_); first | refine K.sq (AW.regL ?_) | refine AW.ret ?_) | with_reducible refine K.tN ?_ | with_reducible refine K.tR ?_ | with_reducible refine K.bR ?_ | with_reducible refine K.r1 (by with_unfolding_all rfl) (by with_unfolding_all rfl) ?_)
        rfl
    · refine AC.mk Tryz.func113 rfl rfl rfl rfl rfl (Nat.le_of_ble_eq_true rfl) ?_
      repeat' (first | ((with_reducible refine D.nil ?_); refine AX.nilL ?_) | ((with_reducible refine D.load ?_); refine L.ldb U U U U U U ?_) | ((with_reducible refine D.fieldAddr ?_); refine L.fab U U U U U ?_) | ((with_reducible refine D.assign ?_); refine L.asg U U U ?_) | ((with_reducible refine D.box ?_); refine L.bx U U U U ?_) | ((with_reducible refine D.aw ?_); first | ((with_reducible refine D.sblk ?_); refine K.sq (AW.block ?_)) | ((with_reducible refine D.blk ?_); refine AW.block ?_) | refine K.sq (AW.regL ?_) | refine K.sq (K.sq ?_) | refine AW.regL ?_) | with_reducible refine K.tN ?_)
      refine K.sq (AW.block ?_)
      repeat' (first | ((with_reducible refine D.nil ?_); refine AX.nilL ?_) | ((with_reducible refine D.load ?_); refine L.ldb U U U U U U ?_) | ((with_reducible refine D.move ?_); refine L.mv U U U ?_) | ((with_reducible refine D.fieldAddr ?_); refine L.fab U U U U U ?_) | ((with_reducible refine D.assign ?_); refine L.asg U U U ?_) | ((with_reducible refine D.bin ?_); refine L.bn U U U U U ?_) | ((with_reducible refine D.call ?_); refine L.lnt U U U U ?_) | ((with_reducible refine D.aw ?_); first | ((with_reducible refine D.blk ?_); refine AW.block ?_) | refine K.sq (AW.regL ?_) | refine K.sq (K.sq ?_) | refine AW.regL ?_ | refine AW.condT U ?_ | refine AW.condF U ?_ | refine AW.skip ?_ | refine AW.exit ?_) | with_reducible refine K.tN ?_ | with_reducible refine K.tE ?_ | with_reducible refine K.bX (by with_unfolding_all rfl) ?_ | with_reducible refine K.bO (by with_unfolding_all rfl) ?_)
      refine AW.range xs.length (fun m => ∀ j (hj : j < xs.length), j < m → xs[j].tyE (g) = 0)
        (fun m => ([(0, .s .sz ((g).map ofT)), (3, .ptr 0 0), (28, .s .fm xs), (29, .i xs.length), (30, .i m)], ⟨1, [(0, .var (Fm.mk 3 th [] xs).view)]⟩))
        (by omega) (fun m => rfl) (fun m => rfl) U (fun j hj h => by omega) (Weak.mk [some 0] _ _ _ U U U U (by (repeat' (first | exact trivial | refine And.intro ?_ ?_ | refine ⟨_, U, _, U, ?_⟩ | exact VLe.refl _)); done) (by (repeat' (first | exact trivial | refine And.intro ?_ ?_ | refine ⟨_, U, _, U, _, U, ?_⟩ | exact VLe.refl _)); done)) ?_ ?_
      · intro m hm hP
        have hc := args (g) hg (by omega) m hm
        repeat' (first | ((with_reducible refine D.nil ?_); refine AX.nilL ?_) | ((with_reducible refine D.load ?_); first | refine L.ldb U U U U U U ?_ | refine L.lda U U U U U ?_) | ((with_reducible refine D.move ?_); refine L.mv U U U ?_) | ((with_reducible refine D.assign ?_); refine L.asg U U U ?_) | ((with_reducible refine D.bin ?_); refine L.bn U U U U U ?_) | ((with_reducible refine D.call ?_); refine L.c2 (hc) U U U U ?_) | ((with_reducible refine D.alloc ?_); refine L.al U U U ?_) | ((with_reducible refine D.store ?_); refine L.st U U U U U U U U U ?_) | ((with_reducible refine D.indexAddr ?_); refine L.ixt _ U U U U U U U (by assumption) ?_) | ((with_reducible refine D.aw ?_); first | refine K.sq (AW.regL ?_) | refine AW.condS U (fun h => ?_) (fun h => ?_) | refine AW.skip ?_ | refine AW.ret ?_) | with_reducible refine K.tN ?_ | with_reducible refine K.bN ?_ | with_reducible refine K.tR ?_ | with_reducible refine K.bR ?_ | with_reducible refine K.gR ?_ | with_reducible refine K.r1 (by with_unfolding_all rfl) (by with_unfolding_all rfl) ?_)
        · have hx : xs[m].tyE (g) ≠ 0 := by simpa using h
          rw [he, firstI_at hm hP hx]
          rfl
        · exact ⟨rfl, all_step (p := fun x => Fm.tyE (g) x = 0) hm hP (by simpa using h), (Weak.mk [some 0] _ _ _ U U U U (by (repeat' (first | exact trivial | refine And.intro ?_ ?_ | refine ⟨_, U, _, U, ?_⟩ | exact VLe.refl _)); done) (by (repeat' (first | exact trivial | refine And.intro ?_ ?_ | refine ⟨_, U, _, U, _, U, ?_⟩ | exact VLe.refl _)); done))⟩
      · intro hP
        rw [he, firstI_none (f := Fm.tyE (g)) fun j hj _ => hP j hj hj]
        repeat' (first | ((with_reducible refine D.nil ?_); refine AX.nilL ?_) | ((with_reducible refine D.assign ?_); refine L.asg U U U ?_) | ((with_reducible refine D.aw ?_); first | refine K.sq (AW.regL ?_) | refine AW.ret ?_) | with_reducible refine K.tN ?_ | with_reducible refine K.tR ?_ | with_reducible refine K.bR ?_ | with_reducible refine K.r1 (by with_unfolding_all rfl) (by with_unfolding_all rfl) ?_)
        rfl
  · have e0 : ctxF g (Fm.mk k th [] xs) = g ++ [th] := by simp only [ctxF, quantK, Fm.kind_mk, Fm.ty_mk]; rcases hk with rfl | rfl | rfl | rfl <;> rfl
    rw [e0] at he
    replace he : Fm.tyE g (Fm.mk k th [] xs) = firstI (Fm.tyE (g ++ [th])) xs := by rw [he]; simp [firstI]
    have hg' : ∀ x ∈ g ++ [th], x.err = 0 := fun x hx => by
      rcases List.mem_append.1 hx with h | h
      · exact hg x h
      · simp at h; subst h; exact hth
    rcases hk with rfl | rfl | rfl | rfl
    · refine AC.mk Tryz.func113 rfl rfl rfl rfl rfl (Nat.le_of_ble_eq_true rfl) ?_
      repeat' (first | ((with_reducible refine D.nil ?_); refine AX.nilL ?_) | ((with_reducible refine D.load ?_); refine L.ldb U U U U U U ?_) | ((with_reducible refine D.fieldAddr ?_); refine L.fab U U U U U ?_) | ((with_reducible refine D.assign ?_); refine L.asg U U U ?_) | ((with_reducible refine D.box ?_); refine L.bx U U U U ?_) | ((with_reducible refine D.aw ?_); first | ((with_reducible refine D.sblk ?_); refine K.sq (AW.block ?_)) | ((with_reducible refine D.blk ?_); refine AW.block ?_) | refine K.sq (AW.regL ?_) | refine K.sq (K.sq ?_) | refine AW.regL ?_) | with_reducible refine K.tN ?_)
      refine K.sq (AW.block ?_)
      repeat' (first | ((with_reducible refine D.nil ?_); refine AX.nilL ?_) | ((with_reducible refine D.load ?_); refine L.ldb U U U U U U ?_) | ((with_reducible refine D.move ?_); refine L.mv U U U ?_) | ((with_reducible refine D.fieldAddr ?_); refine L.fab U U U U U ?_) | ((with_reducible refine D.assign ?_); refine L.asg U U U ?_) | ((with_reducible refine D.bin ?_); refine L.bn U U U U U ?_) | ((with_reducible refine D.call ?_); first | refine L.lnt U U U U ?_ | refine L.c2 (hw) U U U U ?_) | ((with_reducible refine D.ax ?_); refine L.bs1 U U U U U (EC.fold_of U) U U ?_) | ((with_reducible refine D.aw ?_); first | ((with_reducible refine D.blk ?_); refine AW.block ?_) | refine K.sq (AW.regL ?_) | refine K.sq (K.sq ?_) | refine AW.regL ?_ | refine AW.condT U ?_ | refine AW.skip ?_ | refine AW.exit ?_) | with_reducible refine K.tN ?_ | with_reducible refine K.bN ?_ | with_reducible refine K.tE ?_ | with_reducible refine K.bX (by with_unfolding_all rfl) ?_)
      refine AW.range xs.length (fun m => ∀ j (hj : j < xs.length), j < m → xs[j].tyE (g ++ [th]) = 0)
        (fun m => ([(0, .s .sz ((g ++ [th]).map ofT)), (3, .ptr 0 0), (28, .s .fm xs), (29, .i xs.length), (30, .i m)], ⟨1, [(0, .var (Fm.mk 4 th [] xs).view)]⟩))
        (by omega) (fun m => rfl) (fun m => rfl) U (fun j hj h => by omega) (Weak.mk [some 0] _ _ _ U U U U (by (repeat' (first | exact trivial | refine And.intro ?_ ?_ | refine ⟨_, U, _, U, ?_⟩ | exact VLe.refl _)); done) (by (repeat' (first | exact trivial | refine And.intro ?_ ?_ | refine ⟨_, U, _, U, _, U, ?_⟩ | exact VLe.refl _)); done)) ?_ ?_
      · intro m hm hP
        have hc := args (g ++ [th]) hg' (by simp; omega) m hm
        repeat' (first | ((with_reducible refine D.nil ?_); refine AX.nilL ?_) | ((with_reducible refine D.load ?_); first | refine L.ldb U U U U U U ?_ | refine L.lda U U U U U ?_) | ((with_reducible refine D.move ?_); refine L.mv U U U ?_) | ((with_reducible refine D.assign ?_); refine L.asg U U U ?_) | ((with_reducible refine D.bin ?_); refine L.bn U U U U U ?_) | ((with_reducible refine D.call ?_); refine L.c2 (hc) U U U U ?_) | ((with_reducible refine D.alloc ?_); refine L.al U U U ?_) | ((with_reducible refine D.store ?_); refine L.st U U U U U U U U U ?_) | ((with_reducible refine D.indexAddr ?_); refine L.ixt _ U U U U U U U (by assumption) ?_) | ((with_reducible refine D.aw ?_); first | refine K.sq (AW.regL ?_) | refine AW.condS U (fun h => ?_) (fun h => ?_) | refine AW.skip ?_ | refine AW.ret ?_) | with_reducible refine K.tN ?_ | with_reducible refine K.bN ?_ | with_reducible refine K.tR ?_ | with_reducible refine K.bR ?_ | with_reducible refine K.gR ?_ | with_reducible refine K.r1 (by with_unfolding_all rfl) (by with_unfolding_all rfl) ?_)
        · have hx : xs[m].tyE (g ++ [th]) ≠ 0 := by simpa using h
          rw [he, firstI_at hm hP hx]
          rfl
        · exact ⟨rfl, all_step (p := fun x => Fm.tyE (g ++ [th]) x = 0) hm hP (by simpa using h), (Weak.mk [some 0] _ _ _ U U U U (by (repeat' (first | exact trivial | refine And.intro ?_ ?_ | refine ⟨_, U, _, U, ?_⟩ | exact VLe.refl _)); done) (by (repeat' (first | exact trivial | refine And.intro ?_ ?_ | refine ⟨_, U, _, U, _, U, ?_⟩ | exact VLe.refl _)); done))⟩
      · intro hP
        rw [he, firstI_none (f := Fm.tyE (g ++ [th])) fun j hj _ => hP j hj hj]
        repeat' (first | ((with_reducible refine D.nil ?_); refine AX.nilL ?_) | ((with_reducible refine D.assign ?_); refine L.asg U U U ?_) | ((with_reducible refine D.aw ?_); first | refine K.sq (AW.regL ?_) | refine AW.ret ?_) | with_reducible refine K.tN ?_ | with_reducible refine K.tR ?_ | with_reducible refine K.bR ?_ | with_reducible refine K.r1 (by with_unfolding_all rfl) (by with_unfolding_all rfl) ?_)
        rfl
    · refine AC.mk Tryz.func113 rfl rfl rfl rfl rfl (Nat.le_of_ble_eq_true rfl) ?_
      repeat' (first | ((with_reducible refine D.nil ?_); refine AX.nilL ?_) | ((with_reducible refine D.load ?_); refine L.ldb U U U U U U ?_) | ((with_reducible refine D.fieldAddr ?_); refine L.fab U U U U U ?_) | ((with_reducible refine D.assign ?_); refine L.asg U U U ?_) | ((with_reducible refine D.box ?_); refine L.bx U U U U ?_) | ((with_reducible refine D.aw ?_); first | ((with_reducible refine D.sblk ?_); refine K.sq (AW.block ?_)) | ((with_reducible refine D.blk ?_); refine AW.block ?_) | refine K.sq (AW.regL ?_) | refine K.sq (K.sq ?_) | refine AW.regL ?_) | with_reducible refine K.tN ?_)
      refine K.sq (AW.block ?_)
      repeat' (first | ((with_reducible refine D.nil ?_); refine AX.nilL ?_) | ((with_reducible refine D.load ?_); refine L.ldb U U U U U U ?_) | ((with_reducible refine D.move ?_); refine L.mv U U U ?_) | ((with_reducible refine D.fieldAddr ?_); refine L.fab U U U U U ?_) | ((with_reducible refine D.assign ?_); refine L.asg U U U ?_) | ((with_reducible refine D.bin ?_); refine L.bn U U U U U ?_) | ((with_reducible refine D.call ?_); first | refine L.lnt U U U U ?_ | refine L.c2 (hw) U U U U ?_) | ((with_reducible refine D.ax ?_); refine L.bs1 U U U U U (EC.fold_of U) U U ?_) | ((with_reducible refine D.aw ?_); first | ((with_reducible refine D.blk ?_); refine AW.block ?_) | refine K.sq (AW.regL ?_) | refine K.sq (K.sq ?_) | refine AW.regL ?_ | refine AW.condT U ?_ | refine AW.condF U ?_ | refine AW.exit ?_) | with_reducible refine K.tN ?_ | with_reducible refine K.bN ?_ | with_reducible refine K.tE ?_ | with_reducible refine K.bX (by with_unfolding_all rfl) ?_)
      refine AW.range xs.length (fun m => ∀ j (hj : j < xs.length), j < m → xs[j].tyE (g ++ [th]) = 0)
        (fun m => ([(0, .s .sz ((g ++ [th]).map ofT)), (3, .ptr 0 0), (28, .s .fm xs), (29, .i xs.length), (30, .i m)], ⟨1, [(0, .var (Fm.mk 5 th [] xs).view)]⟩))
        (by omega) (fun m => rfl) (fun m => rfl) U (fun j hj h => by omega) (Weak.mk [some 0] _ _ _ U U U U (by (repeat' (first | exact trivial | refine And.intro ?_ ?_ | refine ⟨_, U, _, U, ?_⟩ | exact VLe.refl _)); done) (by (repeat' (first | exact trivial | refine And.intro ?_ ?_ | refine ⟨_, U, _, U, _, U, ?_⟩ | exact VLe.refl _)); done)) ?_ ?_
      · intro m hm hP
        have hc := args (g ++ [th]) hg' (by simp; omega) m hm
        repeat' (first | ((with_reducible refine D.nil ?_); refine AX.nilL ?_) | ((with_reducible refine D.load ?_); first | refine L.ldb U U U U U U ?_ | refine L.lda U U U U U ?_) | ((with_reducible refine D.move ?_); refine L.mv U U U ?_) | ((with_reducible refine D.assign ?_); refine L.asg U U U ?_) | ((with_reducible refine D.bin ?_); refine L.bn U U U U U ?_) | ((with_reducible refine D.call ?_); refine L.c2 (hc) U U U U ?_) | ((with_reducible refine D.alloc ?_); refine L.al U U U ?_) | ((with_reducible refine D.store ?_); refine L.st U U U U U U U U U ?_) | ((with_reducible refine D.indexAddr ?_); refine L.ixt _ U U U U U U U (by assumption) ?_) | ((with_reducible refine D.aw ?_); first | refine K.sq (AW.regL ?_) | refine AW.condS U (fun h => ?_) (fun h => ?_) | refine AW.skip ?_ | refine AW.ret ?_) | with_reducible refine K.tN ?_ | with_reducible refine K.bN ?_ | with_reducible refine K.tR ?_ | with_reducible refine K.bR ?_ | with_reducible refine K.gR ?_ | with_reducible refine K.r1 (by with_unfolding_all rfl) (by with_unfolding_all rfl) ?_)
        · have hx : xs[m].tyE (g ++ [th]) ≠ 0 := by simpa using h
          rw [he, firstI_at hm hP hx]
          rfl
        · exact ⟨rfl, all_step (p := fun x => Fm.tyE (g ++ [th]) x = 0) hm hP (by simpa using h), (Weak.mk [some 0] _ _ _ U U U U (by (repeat' (first | exact trivial | refine And.intro ?_ ?_ | refine ⟨_, U, _, U, ?_⟩ | exact VLe.refl _)); done) (by (repeat' (first | exact trivial | refine And.intro ?_ ?_ | refine ⟨_, U, _, U, _, U, ?_⟩ | exact VLe.refl _)); done))⟩
      · intro hP
        rw [he, firstI_none (f := Fm.tyE (g ++ [th])) fun j hj _ => hP j hj hj]
        repeat' (first | ((with_reducible refine D.nil ?_); refine AX.nilL ?_) | ((with_reducible refine D.assign ?_); refine L.asg U U U ?_) | ((with_reducible refine D.aw ?_); first | refine K.sq (AW.regL ?_) | refine AW.ret ?_) | with_reducible refine K.tN ?_ | with_reducible refine K.tR ?_ | with_reducible refine K.bR ?_ | with_reducible refine K.r1 (by with_unfolding_all rfl) (by with_unfolding_all rfl) ?_)
        rfl
    · refine AC.mk Tryz.func113 rfl rfl rfl rfl rfl (Nat.le_of_ble_eq_true rfl) ?_
      repeat' (first | ((with_reducible refine D.nil ?_); refine AX.nilL ?_) | ((with_reducible refine D.load ?_); refine L.ldb U U U U U U ?_) | ((with_reducible refine D.fieldAddr ?_); refine L.fab U U U U U ?_) | ((with_reducible refine D.assign ?_); refine L.asg U U U ?_) | ((with_reducible refine D.box ?_); refine L.bx U U U U ?_) | ((with_reducible refine D.aw ?_); first | ((with_reducible refine D.sblk ?_); refine K.sq (AW.block ?_)) | ((with_reducible refine D.blk ?_); refine AW.block ?_) | refine K.sq (AW.regL ?_) | refine K.sq (K.sq ?_) | refine AW.regL ?_) | with_reducible refine K.tN ?_)
      refine K.sq (AW.block ?_)
      repeat' (first | ((with_reducible refine D.nil ?_); refine AX.nilL ?_) | ((with_reducible refine D.load ?_); refine L.ldb U U U U U U ?_) | ((with_reducible refine D.move ?_); refine L.mv U U U ?_) | ((with_reducible refine D.fieldAddr ?_); refine L.fab U U U U U ?_) | ((with_reducible refine D.assign ?_); refine L.asg U U U ?_) | ((with_reducible refine D.bin ?_); refine L.bn U U U U U ?_) | ((with_reducible refine D.call ?_); first | refine L.lnt U U U U ?_ | refine L.c2 (hw) U U U U ?_) | ((with_reducible refine D.ax ?_); refine L.bs1 U U U U U (EC.fold_of U) U U ?_) | ((with_reducible refine D.aw ?_); first | ((with_reducible refine D.blk ?_); refine AW.block ?_) | refine K.sq (AW.regL ?_) | refine K.sq (K.sq ?_) | refine AW.regL ?_ | refine AW.condT U ?_ | refine AW.condF U ?_ | refine AW.skip ?_ | refine AW.exit ?_) | with_reducible refine K.tN ?_ | with_reducible refine K.bN ?_ | with_reducible refine K.tE ?_ | with_reducible refine K.bX (by with_unfolding_all rfl) ?_ | with_reducible refine K.bO (by with_unfolding_all rfl) ?_)
      refine AW.range xs.length (fun m => ∀ j (hj : j < xs.length), j < m → xs[j].tyE (g ++ [th]) = 0)
        (fun m => ([(0, .s .sz ((g ++ [th]).map ofT)), (3, .ptr 0 0), (28, .s .fm xs), (29, .i xs.length), (30, .i m)], ⟨1, [(0, .var (Fm.mk 6 th [] xs).view)]⟩))
        (by omega) (fun m => rfl) (fun m => rfl) U (fun j hj h => by omega) (Weak.mk [some 0] _ _ _ U U U U (by (repeat' (first | exact trivial | refine And.intro ?_ ?_ | refine ⟨_, U, _, U, ?_⟩ | exact VLe.refl _)); done) (by (repeat' (first | exact trivial | refine And.intro ?_ ?_ | refine ⟨_, U, _, U, _, U, ?_⟩ | exact VLe.refl _)); done)) ?_ ?_
      · intro m hm hP
        have hc := args (g ++ [th]) hg' (by simp; omega) m hm
        repeat' (first | ((with_reducible refine D.nil ?_); refine AX.nilL ?_) | ((with_reducible refine D.load ?_); first | refine L.ldb U U U U U U ?_ | refine L.lda U U U U U ?_) | ((with_reducible refine D.move ?_); refine L.mv U U U ?_) | ((with_reducible refine D.assign ?_); refine L.asg U U U ?_) | ((with_reducible refine D.bin ?_); refine L.bn U U U U U ?_) | ((with_reducible refine D.call ?_); refine L.c2 (hc) U U U U ?_) | ((with_reducible refine D.alloc ?_); refine L.al U U U ?_) | ((with_reducible refine D.store ?_); refine L.st U U U U U U U U U ?_) | ((with_reducible refine D.indexAddr ?_); refine L.ixt _ U U U U U U U (by assumption) ?_) | ((with_reducible refine D.aw ?_); first | refine K.sq (AW.regL ?_) | refine AW.condS U (fun h => ?_) (fun h => ?_) | refine AW.skip ?_ | refine AW.ret ?_) | with_reducible refine K.tN ?_ | with_reducible refine K.bN ?_ | with_reducible refine K.tR ?_ | with_reducible refine K.bR ?_ | with_reducible refine K.gR ?_ | with_reducible refine K.r1 (by with_unfolding_all rfl) (by with_unfolding_all rfl) ?_)
        · have hx : xs[m].tyE (g ++ [th]) ≠ 0 := by simpa using h
          rw [he, firstI_at hm hP hx]
          rfl
        · exact ⟨rfl, all_step (p := fun x => Fm.tyE (g ++ [th]) x = 0) hm hP (by simpa using h), (Weak.mk [some 0] _ _ _ U U U U (by (repeat' (first | exact trivial | refine And.intro ?_ ?_ | refine ⟨_, U, _, U, ?_⟩ | exact VLe.refl _)); done) (by (repeat' (first | exact trivial | refine And.intro ?_ ?_ | refine ⟨_, U, _, U, _, U, ?_⟩ | exact VLe.refl _)); done))⟩
      · intro hP
        rw [he, firstI_none (f := Fm.tyE (g ++ [th])) fun j hj _ => hP j hj hj]
        repeat' (first | ((with_reducible refine D.nil ?_); refine AX.nilL ?_) | ((with_reducible refine D.assign ?_); refine L.asg U U U ?_) | ((with_reducible refine D.aw ?_); first | refine K.sq (AW.regL ?_) | refine AW.ret ?_) | with_reducible refine K.tN ?_ | with_reducible refine K.tR ?_ | with_reducible refine K.bR ?_ | with_reducible refine K.r1 (by with_unfolding_all rfl) (by with_unfolding_all rfl) ?_)
        rfl
    · refine AC.mk Tryz.func113 rfl rfl rfl rfl rfl (Nat.le_of_ble_eq_true rfl) ?_
      repeat' (first | ((with_reducible refine D.nil ?_); refine AX.nilL ?_) | ((with_reducible refine D.load ?_); refine L.ldb U U U U U U ?_) | ((with_reducible refine D.fieldAddr ?_); refine L.fab U U U U U ?_) | ((with_reducible refine D.assign ?_); refine L.asg U U U ?_) | ((with_reducible refine D.box ?_); refine L.bx U U U U ?_) | ((with_reducible refine D.aw ?_); first | ((with_reducible refine D.sblk ?_); refine K.sq (AW.block ?_)) | ((with_reducible refine D.blk ?_); refine AW.block ?_) | refine K.sq (AW.regL ?_) | refine K.sq (K.sq ?_) | refine AW.regL ?_) | with_reducible refine K.tN ?_)
      refine K.sq (AW.block ?_)
      repeat' (first | ((with_reducible refine D.nil ?_); refine AX.nilL ?_) | ((with_reducible refine D.load ?_); refine L.ldb U U U U U U ?_) | ((with_reducible refine D.move ?_); refine L.mv U U U ?_) | ((with_reducible refine D.fieldAddr ?_); refine L.fab U U U U U ?_) | ((with_reducible refine D.assign ?_); refine L.asg U U U ?_) | ((with_reducible refine D.bin ?_); refine L.bn U U U U U ?_) | ((with_reducible refine D.call ?_); first | refine L.lnt U U U U ?_ | refine L.c2 (hw) U U U U ?_) | ((with_reducible refine D.ax ?_); refine L.bs1 U U U U U (EC.fold_of U) U U ?_) | ((with_reducible refine D.aw ?_); first | ((with_reducible refine D.blk ?_); refine AW.block ?_) | refine K.sq (AW.regL ?_) | refine K.sq (K.sq ?_) | refine AW.regL ?_ | refine AW.condT U ?_ | refine AW.condF U ?_ | refine AW.skip ?_ | refine AW.exit ?_) | with_reducible refine K.tN ?_ | with_reducible refine K.bN ?_ | with_reducible refine K.tE ?_ | with_reducible refine K.bX (by with_unfolding_all rfl) ?_ | with_reducible refine K.bO (by with_unfolding_all rfl) ?_)
      refine AW.range xs.length (fun m => ∀ j (hj : j < xs.length), j < m → xs[j].tyE (g ++ [th]) = 0)
        (fun m => ([(0, .s .sz ((g ++ [th]).map ofT)), (3, .ptr 0 0), (28, .s .fm xs), (29, .i xs.length), (30, .i m)], ⟨1, [(0, .var (Fm.mk 7 th [] xs).view)]⟩))
        (by omega) (fun m => rfl) (fun m => rfl) U (fun j hj h => by omega) (Weak.mk [some 0] _ _ _ U U U U (by (repeat' (first | exact trivial | refine And.intro ?_ ?_ | refine ⟨_, U, _, U, ?_⟩ | exact VLe.refl _)); done) (by (repeat' (first | exact trivial | refine And.intro ?_ ?_ | refine ⟨_, U, _, U, _, U, ?_⟩ | exact VLe.refl _)); done)) ?_ ?_
      · intro m hm hP
        have hc := args (g ++ [th]) hg' (by simp; omega) m hm
        repeat' (first | ((with_reducible refine D.nil ?_); refine AX.nilL ?_) | ((with_reducible refine D.load ?_); first | refine L.ldb U U U U U U ?_ | refine L.lda U U U U U ?_) | ((with_reducible refine D.move ?_); refine L.mv U U U ?_) | ((with_reducible refine D.assign ?_); refine L.asg U U U ?_) | ((with_reducible refine D.bin ?_); refine L.bn U U U U U ?_) | ((with_reducible refine D.call ?_); refine L.c2 (hc) U U U U ?_) | ((with_reducible refine D.alloc ?_); refine L.al U U U ?_) | ((with_reducible refine D.store ?_); refine L.st U U U U U U U U U ?_) | ((with_reducible refine D.indexAddr ?_); refine L.ixt _ U U U U U U U (by assumption) ?_) | ((with_reducible refine D.aw ?_); first | refine K.sq (AW.regL ?_) | refine AW.condS U (fun h => ?_) (fun h => ?_) | refine AW.skip ?_ | refine AW.ret ?_) | with_reducible refine K.tN ?_ | with_reducible refine K.bN ?_ | with_reducible refine K.tR ?_ | with_reducible refine K.bR ?_ | with_reducible refine K.gR ?_ | with_reducible refine K.r1 (by with_unfolding_all rfl) (by with_unfolding_all rfl) ?_)
        · have hx : xs[m].tyE (g ++ [th]) ≠ 0 := by simpa using h
          rw [he, firstI_at hm hP hx]
          rfl
        · exact ⟨rfl, all_step (p := fun x => Fm.tyE (g ++ [th]) x = 0) hm hP (by simpa using h), (Weak.mk [some 0] _ _ _ U U U U (by (repeat' (first | exact trivial | refine And.intro ?_ ?_ | refine ⟨_, U, _, U, ?_⟩ | exact VLe.refl _)); done) (by (repeat' (first | exact trivial | refine And.intro ?_ ?_ | refine ⟨_, U, _, U, _, U, ?_⟩ | exact VLe.refl _)); done))⟩
      · intro hP
        rw [he, firstI_none (f := Fm.tyE (g ++ [th])) fun j hj _ => hP j hj hj]
        repeat' (first | ((with_reducible refine D.nil ?_); refine AX.nilL ?_) | ((with_reducible refine D.assign ?_); refine L.asg U U U ?_) | ((with_reducible refine D.aw ?_); first | refine K.sq (AW.regL ?_) | refine AW.ret ?_) | with_reducible refine K.tN ?_ | with_reducible refine K.tR ?_ | with_reducible refine K.bR ?_ | with_reducible refine K.r1 (by with_unfolding_all rfl) (by with_unfolding_all rfl) ?_)
        rfl
theorem fmTyped_c (g : List Ty) (f : Fm) (hf : f.full < 34359738368) (hg : ctxErr g = 0) (hg' : ∀ x ∈ g, x.err = 0) (hl : g.length < 4096) (hs : (g.map Ty.size).sum < 137438953472) (he : f.err = 0) : PC E 34 [.s .ty g, .agg f.view] (.i (f.tyE g)) := by
  have h1 := context2_c g (by omega)
  have h2 := fcheck_c f (by omega)
  have h3 := from_c g (by omega)
  have h4 := (Fm.err_iff f).1 he
  have h5 := cformula_c _ f g (Nat.le_refl _) (by omega) h4.1 h4.2 hg' (by omega)
  rw [hg] at h1
  rw [he] at h2
  refine AC.mk Tryz.func34 rfl rfl rfl rfl rfl (Nat.le_of_ble_eq_true rfl) ?_
  repeat' (first | ((with_reducible refine D.nil ?_); first | refine AX.nilL ?_ | refine AX.nilD (by kernel_rfl) ?_) | ((with_reducible refine D.load ?_); refine L.ldb U U U U U U ?_) | ((with_reducible refine D.move ?_); refine L.mv U U U ?_) | ((with_reducible refine D.assign ?_); refine L.asg U U U ?_) | ((with_reducible refine D.bin ?_); refine L.bn U U U U U ?_) | ((with_reducible refine D.call ?_); first | refine L.c2 (h1) U U U U ?_ | refine L.c2 (h2) U U U U ?_ | refine L.c2 (h3) U U U U ?_ | refine L.c2 (h5) U U U U ?_) | ((with_reducible refine D.box ?_); refine L.bx U U U U ?_) | ((with_reducible refine D.aw ?_); first | refine K.sq (AW.regL ?_) | refine K.sq (AW.regD mixed (by kernel_rfl) ?_) | refine K.sq (K.sq ?_) | refine AW.regL ?_ | refine AW.condF U ?_ | refine AW.skip ?_ | refine AW.ret ?_) | with_reducible refine K.tN ?_ | with_reducible refine K.r1 (by with_unfolding_all rfl) (by with_unfolding_all rfl) ?_)
  simp [tupV, V.wk, V.wks, constV, Ty.view, Tm.view]
end Go.Ab
namespace Go.Ab
open Go Go.Proofs
set_option maxRecDepth 100000
set_option maxHeartbeats 4000000
set_option linter.all false
theorem false07_c : PC E 92 [] (.agg falseF.view) := by
  have h1 := n_c 4 [] (by simp)
  have h2 := n_c 5 [.mk 4 0 (.mk 0 []) []] (by simp [Tm.full, Tm.fulls, Ty.size, Ty.sizes])
  have h3 := eqFm_c (.mk 4 0 (.mk 0 []) []) (.mk 5 0 (.mk 0 []) [.mk 4 0 (.mk 0 []) []]) (by simp [Tm.full, Tm.fulls, Ty.size, Ty.sizes]) (by simp [Tm.full, Tm.fulls, Ty.size, Ty.sizes])
  refine AC.mk Tryz.func92 rfl rfl rfl rfl rfl (Nat.le_of_ble_eq_true rfl) ?_
  repeat' (first | ((with_reducible refine D.nil ?_); refine AX.nilL ?_) | ((with_reducible refine D.call ?_); first | refine L.c2 (h1) U U U U ?_ | refine L.c2 (h2) U U U U ?_ | refine L.c2 (h3) U U U U ?_) | ((with_reducible refine D.alloc ?_); refine L.al U U U ?_) | ((with_reducible refine D.store ?_); refine L.st U U U U U U U U U ?_) | ((with_reducible refine D.ax ?_); refine L.bs1 U U U U U (EC.fold_of U) U U ?_) | ((with_reducible refine D.aw ?_); first | refine K.sq (AW.regL ?_) | refine AW.ret ?_) | with_reducible refine K.tN ?_ | with_reducible refine K.r1 (by with_unfolding_all rfl) (by with_unfolding_all rfl) ?_)
  rfl
theorem sane07_c : PC E 26 [] (.bool true) := by
  have v0 := var_c 0
  have v1 := var_c 1
  have hu := usesF_c exF (by decide) fun _ => exF_idx
  rw [exF_err, if_pos rfl, exF_uses] at hu
  have hs := sameFm_r _ falseF (Nat.le_refl _) (by decide)
  refine AC.mk Tryz.func26 rfl rfl rfl rfl rfl (Nat.le_of_ble_eq_true rfl) ?_
  repeat' (first | ((with_reducible refine D.nil ?_); refine AX.nilL ?_) | ((with_reducible refine D.load ?_); first | refine L.ldb U U U U U U ?_ | refine L.lda U U U U U ?_) | ((with_reducible refine D.move ?_); refine L.mv U U U ?_) | ((with_reducible refine D.assign ?_); refine L.asg U U U ?_) | ((with_reducible refine D.bin ?_); refine L.bn U U U U U ?_) | ((with_reducible refine D.call ?_); first | refine L.lnt U U U U ?_ | refine L.c2 (v0) U U U U ?_ | refine L.c2 (v1) U U U U ?_ | refine L.c2 (hu) U U U U ?_ | refine L.c2 (ffalse_c) U U U U ?_ | refine L.c2 (false07_c) U U U U ?_ | refine L.c2 (hs) U U U U ?_) | ((with_reducible refine D.extract ?_); refine L.ex U U U U ?_) | ((with_reducible refine D.alloc ?_); refine L.al U U U ?_) | ((with_reducible refine D.store ?_); refine L.st U U U U U U U U U ?_) | ((with_reducible refine D.indexAddr ?_); refine L.ixt _ U U U U U U U (by (simp only [Ty.args_mk, Tm.args_mk, List.length_cons, List.length_nil, List.getElem_cons_zero, List.getElem_cons_succ]; omega)) ?_) | ((with_reducible refine D.pick ?_); refine L.pk U U U U ?_) | ((with_reducible refine D.ax ?_); first | refine L.bd U U U U U ?_ | refine L.bs1 U U U U U U U U ?_ | refine L.bs2 U U U U U (EC.fold_of U) U U U (EC.fold_of U) U U ?_) | ((with_reducible refine D.aw ?_); first | refine K.sq (AW.regL ?_) | refine AW.ret ?_) | with_reducible refine K.tN ?_ | with_reducible refine K.r1 (by with_unfolding_all rfl) (by with_unfolding_all rfl) ?_)
  all_goals rfl
theorem formulaLifts_c (l : List Int) : PC E 4 [.s .int l] (.bool true) := by
  by_cases hl : l.length ≤ 500
  case neg =>
    have hf := few_f l hl
    refine AC.mk Tryz.func4 rfl rfl rfl rfl rfl (Nat.le_of_ble_eq_true rfl) ?_
    repeat' (first | ((with_reducible refine D.nil ?_); refine AX.nilL ?_) | ((with_reducible refine D.move ?_); refine L.mv U U U ?_) | ((with_reducible refine D.assign ?_); refine L.asg U U U ?_) | ((with_reducible refine D.call ?_); first | refine L.c2 (sane07_c) U U U U ?_ | refine L.c2 (hf) U U U U ?_) | ((with_reducible refine D.not ?_); refine L.nt U U U ?_) | ((with_reducible refine D.aw ?_); first | refine K.sq (AW.regL ?_) | refine K.sq (K.sq ?_) | refine AW.regL ?_ | refine AW.condT U ?_ | refine AW.condF U ?_ | refine AW.skip ?_ | refine AW.ret ?_) | with_reducible refine K.tN ?_ | with_reducible refine K.tR ?_ | with_reducible refine K.r1 (by with_unfolding_all rfl) (by with_unfolding_all rfl) ?_)
    rfl
  have hf := few_t l hl
  have hn := new_c l
  have d0 := deck_ok hl
  have hcx := context_c (Dk.mk l 0) d0
  have hg := Dk.ctx_smalls (Dk.mk l 0)
  have hgl := Dk.ctx_len (Dk.mk l 0)
  have d1 := Dk.ctx_ok d0
  generalize (Dk.mk l 0).ctx.1 = g at *
  generalize (Dk.mk l 0).ctx.2 = D1 at *
  have hF := mkFm_c 2 D1 g 2 (by omega) rfl d1 hg (by omega)
  have gF := Dk.fm_good 2 D1 g hg
  have oF := Dk.fm_okT 2 D1 g hg
  have d2 := Dk.fm_ok 2 D1 g d1
  generalize (Dk.fm 2 D1 g).1 = f at *
  generalize (Dk.fm 2 D1 g).2 = D2 at *
  have hH := mkFm_c 2 D2 g 2 (by omega) rfl d2 hg (by omega)
  have gH := Dk.fm_good 2 D2 g hg
  have oH := Dk.fm_okT 2 D2 g hg
  have d3 := Dk.fm_ok 2 D2 g d2
  generalize (Dk.fm 2 D2 g).1 = h at *
  generalize (Dk.fm 2 D2 g).2 = D3 at *
  have tu := type1_c D3 d3
  have hu := Dk.type1 D3
  have d4 := Dk.type_ok 1 D3 d3
  generalize (D3.type 1).1 = u at *
  generalize (D3.type 1).2 = D4 at *
  have tx := term_c 4 (by omega) D4 g u 2 (by omega) d4 hg hu (by omega) (by omega) (by omega)
  have mx := Dk.tm_mk 4 D4 g u hg hu (by omega) (by omega)
  have fx := mx.full hg hu
  have xfi := mk_fine mx hg hu (by omega) (by omega)
  generalize (Dk.tm 4 D4 g u).1 = x at *
  generalize (Dk.tm 4 D4 g u).2 = D5 at *
  have xn : x.near = true := near_idx fun p hp => by have := xfi.2 p hp; omega
  have ef := fm2_err gF
  have eh := fm2_err gH
  have sf := (Fm.err_iff f).1 ef
  have sh := (Fm.err_iff h).1 eh
  have ff := gF.2.2
  have fh := gH.2.2
  have kf := lft_keeps sf.1 (fr := 0) (by_ := 1) (by omega)
  have kh := lft_keeps sh.1 (fr := 0) (by_ := 1) (by omega)
  have ea := lft_err ef (fr := 0) (by_ := 1) (by omega)
  have lf := liftFErr_no oF ef (by omega)
  have lh := liftFErr_no oH eh (by omega)
  have la := lft_idx sf.1 (fr := 0) (by_ := 1) (by omega) (fokT_idx oF ef (by omega))
  have cl := fLift_c f 0 1 (by omega)
  rw [lf, if_pos rfl] at cl
  have cw := fLower_c (f.lft 0 1) 0 (by omega) fun p hp q hq => by have := la p hp q hq; omega
  rw [lowerFErr_no ef, if_pos rfl, flower_lift fun p hp => tms_shape f sf.1 0 p hp] at cw
  have cp := fput_c (f.lft 0 1) 0 x (by omega) (by omega)
  rw [putFErr_no oF ef (by omega) xfi.1 xn, if_pos rfl, flower_lift fun p hp => tms_shape f sf.1 0 p hp] at cp
  have cn := not_c f (by omega) ef
  have n1 := notF_ok sf.1
  have n2 : (notF f).err = 0 := (Fm.err_iff _).2 ⟨n1.1, by have := gF.2.1; omega⟩
  rw [n2, if_pos rfl] at cn
  have co := or_c f h lf lh (by omega) (by omega) (by omega) (by omega)
  have o1 := orF_ok kf.1 kh.1
  have o2 : (orF (f.lft 0 1) (h.lft 0 1)).err = 0 := (Fm.err_iff _).2 ⟨o1.1, by have := gF.2.1; have := gH.2.1; omega⟩
  rw [o2, if_pos rfl] at co
  have rf := sameFm_r _ f (Nat.le_refl _) (by omega)
  have hgs : (g.map Ty.size).sum ≤ 3 * g.length := smalls_sum hg
  have hge : ∀ x ∈ g, x.err = 0 := fun x hx => (Ty.err_iff x).2 ⟨(hg x hx).1, by have := (hg x hx).2; omega⟩
  have hcg := ctxErr_ok hg (by omega)
  have t1 := fmTyped_c g (notF f) (by have := ferr_full n2; omega) hcg hge (by omega) (by omega) n2
  rw [okT_tyE _ g (notF_okT oF) n1.1 ((Fm.err_iff _).1 n2).2] at t1
  have t2 := fmTyped_c g (orF (f.lft 0 1) (h.lft 0 1)) (by have := ferr_full o2; omega) hcg hge (by omega) (by omega) o2
  rw [okT_tyE _ g (orF_okT (lft_okT natT sf.1 oF) (lft_okT natT sh.1 oH)) o1.1 ((Fm.err_iff _).1 o2).2] at t2
  generalize notF f = no at *
  generalize orF (f.lft 0 1) (h.lft 0 1) = oo at *
  generalize f.lft 0 1 = a at *
  refine AC.mk Tryz.func4 rfl rfl rfl rfl rfl (Nat.le_of_ble_eq_true rfl) ?_
  repeat' (first | ((with_reducible refine D.nil ?_); first | refine AX.nilL ?_ | refine AX.nilD (by kernel_rfl) ?_) | ((with_reducible refine D.load ?_); refine L.ldb U U U U U U ?_) | ((with_reducible refine D.move ?_); refine L.mv U U U ?_) | ((with_reducible refine D.assign ?_); refine L.asg U U U ?_) | ((with_reducible refine D.bin ?_); refine L.bn U U U U U ?_) | ((with_reducible refine D.call ?_); first | refine L.c2 (sane07_c) U U U U ?_ | refine L.c2 (hf) U U U U ?_ | (apply L.cb2 (hn) [] 1 rfl; rfl; rfl; rfl; rfl; rfl; rfl; (focus ((repeat' (first | exact trivial)); done)); rfl; rfl; rfl; rfl) | (apply L.cb2 (hcx) [0] 0 rfl; rfl; rfl; rfl; rfl; rfl; rfl; (focus ((repeat' (first | exact trivial | refine And.intro ?_ ?_ | refine ⟨_, U, _, U, _, U, ?_⟩ | exact VLe.refl _)); done)); rfl; rfl; rfl; rfl) | (apply L.cb2 (hF) [0] 0 rfl; rfl; rfl; rfl; rfl; rfl; rfl; (focus ((repeat' (first | exact trivial | refine And.intro ?_ ?_ | refine ⟨_, U, _, U, _, U, ?_⟩ | exact VLe.refl _)); done)); rfl; rfl; rfl; rfl) | (apply L.cb2 (hH) [0] 0 rfl; rfl; rfl; rfl; rfl; rfl; rfl; (focus ((repeat' (first | exact trivial | refine And.intro ?_ ?_ | refine ⟨_, U, _, U, _, U, ?_⟩ | exact VLe.refl _)); done)); rfl; rfl; rfl; rfl) | (apply L.cb2 (tu) [0] 0 rfl; rfl; rfl; rfl; rfl; rfl; rfl; (focus ((repeat' (first | exact trivial | refine And.intro ?_ ?_ | refine ⟨_, U, _, U, _, U, ?_⟩ | exact VLe.refl _)); done)); rfl; rfl; rfl; rfl) | (apply L.cb2 (tx) [0] 0 rfl; rfl; rfl; rfl; rfl; rfl; rfl; (focus ((repeat' (first | exact trivial | refine And.intro ?_ ?_ | refine ⟨_, U, _, U, _, U, ?_⟩ | exact VLe.refl _)); done)); rfl; rfl; rfl; rfl) | refine L.c2 (cl) U U U U ?_ | refine L.c2 (cw) U U U U ?_ | refine L.c2 (cp) U U U U ?_ | refine L.c2 (cn) U U U U ?_ | refine L.c2 (co) U U U U ?_ | refine L.c2 (rf) U U U U ?_ | refine L.c2 (t1) U U U U ?_ | refine L.c2 (t2) U U U U ?_) | ((with_reducible refine D.extract ?_); refine L.ex U U U U ?_) | ((with_reducible refine D.alloc ?_); refine L.al U U U ?_) | ((with_reducible refine D.store ?_); refine L.st U U U U U U U U U ?_) | ((with_reducible refine D.not ?_); refine L.nt U U U ?_) | ((with_reducible refine D.pick ?_); refine L.pk U U U U ?_) | ((with_reducible refine D.aw ?_); first | refine K.sq (AW.regL ?_) | refine K.sq (AW.regD mixed (by kernel_rfl) ?_) | refine K.sq (K.sq ?_) | refine AW.regL ?_ | refine AW.condF U ?_ | refine AW.skip ?_ | refine AW.ret ?_) | with_reducible refine K.tN ?_ | with_reducible refine K.r1 (by with_unfolding_all rfl) (by with_unfolding_all rfl) ?_)
  all_goals rfl
end Go.Ab
