/- A part of the proofs of this seat's statements: S42, S43, S44, S45, S46, S47, S54, S55, S62, S48, S49. It has no conditions of its own. -/
import Derived.Test.YthenpnfgkgglcaaGreatDoorS1
import Derived.Test.YthenpnfgkgglcaaGreatDoorD1
import Derived.Test.YthenpnfgkgglcaaGreatDoorA2
namespace Go.Ab
open Go Go.Proofs
set_option maxRecDepth 100000
set_option maxHeartbeats 4000000
set_option linter.all false
theorem formulaNodes_c : ∀ (b : Nat) (f : Fm), f.full ≤ b → b < 1099511627776 → PC E 132 [.agg f.view] (.tup [.i f.nodes, .bool f.shape]) := by
  intro b
  induction b with
  | zero => intro f h; have := f.full_pos; omega
  | succ b ih =>
  intro f hsz hb
  have hsz' := f.full_eq
  have hse := f.size_eq
  have hle := f.size_le_full
  have hlen := lsum_len Fm.full Fm.full_pos f.args
  have hlen2 := lsum_len Tm.full Tm.full_pos f.terms
  have hsh := f.shape_eq
  have h1 := formed_c f (by omega)
  cases hh : f.head with
  | false =>
    rw [hh] at h1 hsh
    have e : f.shape = false := by rw [hsh]; rfl
    rw [show f.nodes = 0 by simp [Fm.nodes, e], e]
    refine AC.mk Tryz.func132 rfl rfl rfl rfl rfl (Nat.le_of_ble_eq_true rfl) ?_
    repeat' (first | ((with_reducible refine D.nil ?_); refine AX.nilL ?_) | ((with_reducible refine D.load ?_); refine L.ldb U U U U U U ?_) | ((with_reducible refine D.assign ?_); refine L.asg U U U ?_) | ((with_reducible refine D.call ?_); refine L.c2 (h1) U U U U ?_) | ((with_reducible refine D.box ?_); refine L.bx U U U U ?_) | ((with_reducible refine D.not ?_); refine L.nt U U U ?_) | ((with_reducible refine D.aw ?_); first | refine K.sq (AW.regL ?_) | refine K.sq (K.sq ?_) | refine AW.regL ?_ | refine AW.condT U ?_ | refine AW.ret ?_) | with_reducible refine K.tN ?_ | with_reducible refine K.tR ?_ | with_reducible refine K.r1 (by with_unfolding_all rfl) (by with_unfolding_all rfl) ?_)
    rfl
  | true =>
  rw [hh] at h1 hsh
  refine AC.mk Tryz.func132 rfl rfl rfl rfl rfl (Nat.le_of_ble_eq_true rfl) ?_
  repeat' (first | ((with_reducible refine D.nil ?_); refine AX.nilL ?_) | ((with_reducible refine D.load ?_); refine L.ldb U U U U U U ?_) | ((with_reducible refine D.move ?_); refine L.mv U U U ?_) | ((with_reducible refine D.fieldAddr ?_); refine L.fab U U U U U ?_) | ((with_reducible refine D.assign ?_); refine L.asg U U U ?_) | ((with_reducible refine D.call ?_); first | refine L.lnt U U U U ?_ | refine L.c2 (h1) U U U U ?_) | ((with_reducible refine D.box ?_); refine L.bx U U U U ?_) | ((with_reducible refine D.not ?_); refine L.nt U U U ?_) | ((with_reducible refine D.aw ?_); first | refine K.sq (AW.regL ?_) | refine K.sq (K.sq ?_) | refine AW.regL ?_ | refine AW.condF U ?_ | refine AW.skip ?_) | with_reducible refine K.tN ?_)
  refine AW.range f.terms.length (fun m => ∀ j (hj : j < f.terms.length), j < m → (f.terms[j]).shape = true)
    (fun m => ([(1, .ptr 0 0), (4, .i (1 + ((f.terms.take m).map Tm.size).sum : Nat)), (17, .s .tm f.terms), (18, .i f.terms.length), (19, .i m)], ⟨1, [(0, .var f.view)]⟩))
    (by omega) (fun m => rfl) (fun m => rfl) U (fun j hj h => by omega) (Weak.mk [some 0] _ _ _ U U U U (by (repeat' (first | exact trivial | refine And.intro ?_ ?_ | refine ⟨_, U, _, U, ?_⟩ | exact VLe.refl _)); done) (by (repeat' (first | exact trivial | refine And.intro ?_ ?_ | refine ⟨_, U, _, U, _, U, ?_⟩ | exact VLe.refl _)); done)) ?_ ?_
  · intro m hm hP
    have hs1 := lsum_take Tm.size f.terms m hm
    have hs2 := lsum_mem Tm.full (List.getElem_mem hm)
    have hs3 := lsum_take_le Tm.size f.terms m
    have hs4 := lsum_le (f := Tm.size) (g := Tm.full) f.terms fun x _ => x.size_le_full
    have hs5 := f.terms[m].size_le_full
    have hc := termNodes_c _ f.terms[m] (Nat.le_refl _) (by omega)
    cases hx : (f.terms[m]).shape with
    | false =>
      rw [show nodesM f.terms[m] = .tup [.i 0, .bool false] by simp [nodesM, Tm.nodes, hx]] at hc
      have e : f.shape = false := by rw [hsh, all_not Tm.shape hm hx]; rfl
      rw [show f.nodes = 0 by simp [Fm.nodes, e], e]
      repeat' (first | ((with_reducible refine D.nil ?_); refine AX.nilL ?_) | ((with_reducible refine D.load ?_); first | refine L.ldb U U U U U U ?_ | refine L.lda U U U U U ?_) | ((with_reducible refine D.move ?_); refine L.mv U U U ?_) | ((with_reducible refine D.assign ?_); refine L.asg U U U ?_) | ((with_reducible refine D.call ?_); refine L.c2 (hc) U U U U ?_) | ((with_reducible refine D.extract ?_); refine L.ex U U U U ?_) | ((with_reducible refine D.alloc ?_); refine L.al U U U ?_) | ((with_reducible refine D.store ?_); refine L.st U U U U U U U U U ?_) | ((with_reducible refine D.indexAddr ?_); refine L.ixt _ U U U U U U U (by assumption) ?_) | ((with_reducible refine D.not ?_); refine L.nt U U U ?_) | ((with_reducible refine D.aw ?_); first | refine K.sq (AW.regL ?_) | refine K.sq (K.sq ?_) | refine AW.regL ?_ | refine AW.condT U ?_ | refine AW.ret ?_) | with_reducible refine K.tN ?_ | with_reducible refine K.tR ?_ | with_reducible refine K.bR ?_ | with_reducible refine K.gR ?_ | with_reducible refine K.r1 (by with_unfolding_all rfl) (by with_unfolding_all rfl) ?_)
      rfl
    | true =>
      rw [show nodesM f.terms[m] = .tup [.i f.terms[m].size, .bool true] by simp [nodesM, Tm.nodes, hx]] at hc
      repeat' (first | ((with_reducible refine D.nil ?_); refine AX.nilL ?_) | ((with_reducible refine D.load ?_); first | refine L.ldb U U U U U U ?_ | refine L.lda U U U U U ?_) | ((with_reducible refine D.move ?_); refine L.mv U U U ?_) | ((with_reducible refine D.assign ?_); refine L.asg U U U ?_) | ((with_reducible refine D.bin ?_); refine L.ad U U U U (by omega) ?_) | ((with_reducible refine D.call ?_); refine L.c2 (hc) U U U U ?_) | ((with_reducible refine D.extract ?_); refine L.ex U U U U ?_) | ((with_reducible refine D.alloc ?_); refine L.al U U U ?_) | ((with_reducible refine D.store ?_); refine L.st U U U U U U U U U ?_) | ((with_reducible refine D.indexAddr ?_); refine L.ixt _ U U U U U U U (by assumption) ?_) | ((with_reducible refine D.not ?_); refine L.nt U U U ?_) | ((with_reducible refine D.aw ?_); first | refine K.sq (AW.regL ?_) | refine K.sq (K.sq ?_) | refine AW.regL ?_ | refine AW.condF U ?_ | refine AW.skip ?_) | with_reducible refine K.tN ?_ | with_reducible refine K.bN ?_)
      refine ⟨rfl, all_step (p := fun t => Tm.shape t = true) hm hP hx, ?_⟩
      simp only [hs1]
      exact (Weak.mk [some 0] _ _ _ U U U U (by (repeat' (first | exact trivial | refine And.intro ?_ ?_ | refine ⟨_, U, _, U, ?_⟩ | exact VLe.refl _ | exact VLe.of_eq (by simp [Sto.upd, Int.natCast_add, Int.add_assoc]))); done) (by (repeat' (first | exact trivial | refine And.intro ?_ ?_ | refine ⟨_, U, _, U, _, U, ?_⟩ | exact VLe.refl _)); done))
  · intro hP
    have hpt := all_of Tm.shape f.terms fun j hj => hP j hj hj
    rw [hpt] at hsh
    simp only [List.take_length]
    repeat' (first | ((with_reducible refine D.nil ?_); refine AX.nilL ?_) | ((with_reducible refine D.load ?_); refine L.ldb U U U U U U ?_) | ((with_reducible refine D.move ?_); refine L.mv U U U ?_) | ((with_reducible refine D.fieldAddr ?_); refine L.fab U U U U U ?_) | ((with_reducible refine D.call ?_); refine L.lnt U U U U ?_) | ((with_reducible refine D.aw ?_); first | refine K.sq (K.sq ?_) | refine AW.regL ?_) | with_reducible refine K.tN ?_)
    refine AW.range f.args.length (fun m => ∀ j (hj : j < f.args.length), j < m → (f.args[j]).shape = true)
      (fun m => ([(1, .ptr 0 0), (4, .i (1 + (f.terms.map Tm.size).sum + ((f.args.take m).map Fm.size).sum : Nat)), (35, .s .fm f.args), (36, .i f.args.length), (37, .i m)], ⟨1, [(0, .var f.view)]⟩))
      (by omega) (fun m => rfl) (fun m => rfl) U (fun j hj h => by omega) (Weak.mk [some 0] _ _ _ U U U U (by (repeat' (first | exact trivial | refine And.intro ?_ ?_ | refine ⟨_, U, _, U, ?_⟩ | exact VLe.refl _)); done) (by (repeat' (first | exact trivial | refine And.intro ?_ ?_ | refine ⟨_, U, _, U, _, U, ?_⟩ | exact VLe.refl _)); done)) ?_ ?_
    · intro m hm hP
      have hs0 := lsum_le (f := Tm.size) (g := Tm.full) f.terms fun x _ => x.size_le_full
      have hs1 := lsum_take Fm.size f.args m hm
      have hs2 := lsum_mem Fm.full (List.getElem_mem hm)
      have hs3 := lsum_take_le Fm.size f.args m
      have hs4 := lsum_le (f := Fm.size) (g := Fm.full) f.args fun x _ => x.size_le_full
      have hs5 := f.args[m].size_le_full
      have hc := ih f.args[m] (by omega) (by omega)
      cases hx : (f.args[m]).shape with
      | false =>
        rw [hx, show (f.args[m]).nodes = 0 by simp [Fm.nodes, hx]] at hc
        have e : f.shape = false := by rw [hsh, all_not Fm.shape hm hx]; rfl
        rw [show f.nodes = 0 by simp [Fm.nodes, e], e]
        repeat' (first | ((with_reducible refine D.nil ?_); refine AX.nilL ?_) | ((with_reducible refine D.load ?_); first | refine L.ldb U U U U U U ?_ | refine L.lda U U U U U ?_) | ((with_reducible refine D.move ?_); refine L.mv U U U ?_) | ((with_reducible refine D.assign ?_); refine L.asg U U U ?_) | ((with_reducible refine D.call ?_); refine L.c2 (hc) U U U U ?_) | ((with_reducible refine D.extract ?_); refine L.ex U U U U ?_) | ((with_reducible refine D.alloc ?_); refine L.al U U U ?_) | ((with_reducible refine D.store ?_); refine L.st U U U U U U U U U ?_) | ((with_reducible refine D.indexAddr ?_); refine L.ixt _ U U U U U U U (by assumption) ?_) | ((with_reducible refine D.not ?_); refine L.nt U U U ?_) | ((with_reducible refine D.aw ?_); first | refine K.sq (AW.regL ?_) | refine K.sq (K.sq ?_) | refine AW.regL ?_ | refine AW.condT U ?_ | refine AW.ret ?_) | with_reducible refine K.tN ?_ | with_reducible refine K.tR ?_ | with_reducible refine K.bR ?_ | with_reducible refine K.gR ?_ | with_reducible refine K.r1 (by with_unfolding_all rfl) (by with_unfolding_all rfl) ?_)
        rfl
      | true =>
        rw [hx, show (f.args[m]).nodes = (f.args[m]).size by simp [Fm.nodes, hx]] at hc
        repeat' (first | ((with_reducible refine D.nil ?_); refine AX.nilL ?_) | ((with_reducible refine D.load ?_); first | refine L.ldb U U U U U U ?_ | refine L.lda U U U U U ?_) | ((with_reducible refine D.move ?_); refine L.mv U U U ?_) | ((with_reducible refine D.assign ?_); refine L.asg U U U ?_) | ((with_reducible refine D.bin ?_); refine L.ad U U U U (by omega) ?_) | ((with_reducible refine D.call ?_); refine L.c2 (hc) U U U U ?_) | ((with_reducible refine D.extract ?_); refine L.ex U U U U ?_) | ((with_reducible refine D.alloc ?_); refine L.al U U U ?_) | ((with_reducible refine D.store ?_); refine L.st U U U U U U U U U ?_) | ((with_reducible refine D.indexAddr ?_); refine L.ixt _ U U U U U U U (by assumption) ?_) | ((with_reducible refine D.not ?_); refine L.nt U U U ?_) | ((with_reducible refine D.aw ?_); first | refine K.sq (AW.regL ?_) | refine K.sq (K.sq ?_) | refine AW.regL ?_ | refine AW.condF U ?_ | refine AW.skip ?_) | with_reducible refine K.tN ?_ | with_reducible refine K.bN ?_)
        refine ⟨rfl, all_step (p := fun t => Fm.shape t = true) hm hP hx, ?_⟩
        simp only [hs1]
        exact (Weak.mk [some 0] _ _ _ U U U U (by (repeat' (first | exact trivial | refine And.intro ?_ ?_ | refine ⟨_, U, _, U, ?_⟩ | exact VLe.refl _ | exact VLe.of_eq (by simp [Sto.upd, Int.natCast_add, Int.add_assoc]))); done) (by (repeat' (first | exact trivial | refine And.intro ?_ ?_ | refine ⟨_, U, _, U, _, U, ?_⟩ | exact VLe.refl _)); done))
    · intro hP
      have hpa := all_of Fm.shape f.args fun j hj => hP j hj hj
      rw [hpa] at hsh
      have e : f.shape = true := hsh
      rw [show f.nodes = f.size by simp [Fm.nodes, e], e, hse]
      simp only [List.take_length]
      repeat' (first | ((with_reducible refine D.nil ?_); refine AX.nilL ?_) | ((with_reducible refine D.move ?_); refine L.mv U U U ?_) | ((with_reducible refine D.assign ?_); refine L.asg U U U ?_) | ((with_reducible refine D.aw ?_); first | refine K.sq (AW.regL ?_) | refine AW.ret ?_) | with_reducible refine K.tN ?_ | with_reducible refine K.r1 (by with_unfolding_all rfl) (by with_unfolding_all rfl) ?_)
      rfl
theorem checkFm_c (f : Fm) (hf : f.full < 1099511627776) : PC E 87 [.agg f.view] (.tup [.i f.num, .i f.err]) := by
  have h1 := formulaNodes_c _ f (Nat.le_refl _) hf
  have hle := f.size_le_full
  cases hs : f.shape with
  | false =>
    have e : f.err = 2 := by simp [Fm.err, hs]
    rw [hs, show f.nodes = 0 by simp [Fm.nodes, hs]] at h1
    rw [show f.num = 0 by simp [Fm.num, e], e]
    refine AC.mk Tryz.func87 rfl rfl rfl rfl rfl (Nat.le_of_ble_eq_true rfl) ?_
    repeat' (first | ((with_reducible refine D.nil ?_); refine AX.nilL ?_) | ((with_reducible refine D.load ?_); refine L.ldb U U U U U U ?_) | ((with_reducible refine D.move ?_); refine L.mv U U U ?_) | ((with_reducible refine D.assign ?_); refine L.asg U U U ?_) | ((with_reducible refine D.call ?_); refine L.c2 (h1) U U U U ?_) | ((with_reducible refine D.extract ?_); refine L.ex U U U U ?_) | ((with_reducible refine D.box ?_); refine L.bx U U U U ?_) | ((with_reducible refine D.not ?_); refine L.nt U U U ?_) | ((with_reducible refine D.aw ?_); first | ((with_reducible refine D.sblk ?_); refine K.sq (AW.block ?_)) | refine K.sq (AW.regL ?_) | refine AW.condT U ?_ | refine AW.ret ?_) | with_reducible refine K.tN ?_ | with_reducible refine K.tR ?_ | with_reducible refine K.bR ?_ | with_reducible refine K.r1 (by with_unfolding_all rfl) (by with_unfolding_all rfl) ?_)
    rfl
  | true =>
    rw [hs, show f.nodes = f.size by simp [Fm.nodes, hs]] at h1
    by_cases hz : f.size > 4096
    · have e : f.err = 4 := by simp [Fm.err, hs, hz]
      rw [show f.num = 0 by simp [Fm.num, e], e]
      refine AC.mk Tryz.func87 rfl rfl rfl rfl rfl (Nat.le_of_ble_eq_true rfl) ?_
      repeat' (first | ((with_reducible refine D.nil ?_); refine AX.nilL ?_) | ((with_reducible refine D.load ?_); refine L.ldb U U U U U U ?_) | ((with_reducible refine D.move ?_); refine L.mv U U U ?_) | ((with_reducible refine D.assign ?_); refine L.asg U U U ?_) | ((with_reducible refine D.bin ?_); refine L.bn U U U U U ?_) | ((with_reducible refine D.call ?_); refine L.c2 (h1) U U U U ?_) | ((with_reducible refine D.extract ?_); refine L.ex U U U U ?_) | ((with_reducible refine D.box ?_); refine L.bx U U U U ?_) | ((with_reducible refine D.not ?_); refine L.nt U U U ?_) | ((with_reducible refine D.aw ?_); first | ((with_reducible refine D.sblk ?_); refine K.sq (AW.block ?_)) | refine K.sq (AW.regL ?_) | refine AW.condF U ?_ | refine AW.condS U (fun h => ?_) (fun h => ?_) | refine AW.skip ?_ | refine AW.ret ?_) | with_reducible refine K.tN ?_ | with_reducible refine K.bN ?_ | with_reducible refine K.tR ?_ | with_reducible refine K.bR ?_ | with_reducible refine K.r1 (by with_unfolding_all rfl) (by with_unfolding_all rfl) ?_)
      · rfl
      · exfalso; simp at h; omega
    · have e : f.err = 0 := by simp [Fm.err, hs, hz]
      rw [show f.num = f.size by simp [Fm.num, e], e]
      refine AC.mk Tryz.func87 rfl rfl rfl rfl rfl (Nat.le_of_ble_eq_true rfl) ?_
      repeat' (first | ((with_reducible refine D.nil ?_); refine AX.nilL ?_) | ((with_reducible refine D.load ?_); refine L.ldb U U U U U U ?_) | ((with_reducible refine D.move ?_); refine L.mv U U U ?_) | ((with_reducible refine D.assign ?_); refine L.asg U U U ?_) | ((with_reducible refine D.bin ?_); refine L.bn U U U U U ?_) | ((with_reducible refine D.call ?_); refine L.c2 (h1) U U U U ?_) | ((with_reducible refine D.extract ?_); refine L.ex U U U U ?_) | ((with_reducible refine D.box ?_); refine L.bx U U U U ?_) | ((with_reducible refine D.not ?_); refine L.nt U U U ?_) | ((with_reducible refine D.aw ?_); first | ((with_reducible refine D.sblk ?_); refine K.sq (AW.block ?_)) | refine K.sq (AW.regL ?_) | refine AW.condF U ?_ | refine AW.condS U (fun h => ?_) (fun h => ?_) | refine AW.skip ?_ | refine AW.ret ?_) | with_reducible refine K.tN ?_ | with_reducible refine K.bN ?_ | with_reducible refine K.tR ?_ | with_reducible refine K.bR ?_ | with_reducible refine K.r1 (by with_unfolding_all rfl) (by with_unfolding_all rfl) ?_)
      · exfalso; simp at h; omega
      · rfl
theorem fcheck_c (f : Fm) (hf : f.full < 1099511627776) : PC E 42 [.agg f.view] (.i f.err) := by
  have h1 := checkFm_c f hf
  refine AC.mk Tryz.func42 rfl rfl rfl rfl rfl (Nat.le_of_ble_eq_true rfl) ?_
  repeat' (first | ((with_reducible refine D.nil ?_); refine AX.nilL ?_) | ((with_reducible refine D.load ?_); refine L.ldb U U U U U U ?_) | ((with_reducible refine D.move ?_); refine L.mv U U U ?_) | ((with_reducible refine D.assign ?_); refine L.asg U U U ?_) | ((with_reducible refine D.call ?_); refine L.c2 (h1) U U U U ?_) | ((with_reducible refine D.extract ?_); refine L.ex U U U U ?_) | ((with_reducible refine D.box ?_); refine L.bx U U U U ?_) | ((with_reducible refine D.aw ?_); first | refine K.sq (AW.regL ?_) | refine AW.ret ?_) | with_reducible refine K.tN ?_ | with_reducible refine K.r1 (by with_unfolding_all rfl) (by with_unfolding_all rfl) ?_)
  rfl
end Go.Ab
namespace Go.Ab
open Go Go.Proofs
set_option maxRecDepth 100000
set_option maxHeartbeats 4000000
set_option linter.all false
theorem copyFm_c : ∀ (b : Nat) (f : Fm), f.full ≤ b → b < 1099511627776 → PC E 58 [.agg f.view] (.agg f.view) := by
  intro b
  induction b with
  | zero => intro f h; have := f.full_pos; omega
  | succ b ih =>
  intro f hsz hb
  have hsz' := f.full_eq
  have hlen := lsum_len Fm.full Fm.full_pos f.args
  have hlen2 := lsum_len Tm.full Tm.full_pos f.terms
  have hty := copyTy_c _ f.ty (Nat.le_refl _) (by omega)
  refine AC.mk Tryz.func58 rfl rfl rfl rfl rfl (Nat.le_of_ble_eq_true rfl) ?_
  repeat' (first | ((with_reducible refine D.nil ?_); first | refine AX.nilL ?_ | refine AX.nilD (by kernel_rfl) ?_) | ((with_reducible refine D.load ?_); refine L.ldb U U U U U U ?_) | ((with_reducible refine D.move ?_); refine L.mv U U U ?_) | ((with_reducible refine D.fieldAddr ?_); refine L.fab U U U U U ?_) | ((with_reducible refine D.call ?_); first | refine L.lnt U U U U ?_ | refine L.c2 (hty) U U U U ?_) | ((with_reducible refine D.box ?_); refine L.bx U U U U ?_) | ((with_reducible refine D.alloc ?_); refine L.al U U U ?_) | ((with_reducible refine D.store ?_); refine L.st U U U U U U U U U ?_) | ((with_reducible refine D.ax ?_); refine L.bd U U U U U ?_) | ((with_reducible refine D.aw ?_); first | refine K.sq (AW.regL ?_) | refine K.sq (AW.regD mixed (by kernel_rfl) ?_) | refine K.sq (K.sq ?_) | refine AW.regL ?_) | with_reducible refine K.tN ?_)
  refine AW.range f.terms.length (fun m => True)
    (fun m => ([(1, .ptr 0 0), (2, .ptr 1 0), (3, .ptr 2 0), (15, .s .tm f.terms), (16, .i f.terms.length), (17, .i m)], ⟨4, [(0, .var f.view), (1, .var [.i 0, .i 0, .slice .nil (.t .ty []), .slice .nil (.t .tm []), .slice .nil (.t .fm [])]), (2, .var [.i f.kind, .i f.ty.kind, .s .ty f.ty.args, .slice (.own 3) (.t .tm (f.terms.take m)), .slice .nil (.t .fm [])]), (3, .row)]⟩))
    (by omega) (fun m => rfl) (fun m => rfl) U trivial (Weak.mk [some 0, some 1, some 2, none] _ _ _ U U U U (by (repeat' (first | exact trivial | refine And.intro ?_ ?_ | refine ⟨_, U, _, U, ?_⟩ | exact VLe.refl _)); done) (by (repeat' (first | exact trivial | exact Or.inl U | refine And.intro ?_ ?_ | refine ⟨_, U, _, U, _, U, ?_⟩ | exact VLe.refl _)); done)) ?_ ?_
  · intro m hm _
    have hs2 := lsum_mem Tm.full (List.getElem_mem hm)
    repeat' (first | ((with_reducible refine D.nil ?_); first | refine AX.nilL ?_ | refine AX.nilD (by kernel_rfl) ?_) | ((with_reducible refine D.load ?_); first | refine L.ldb U U U U U U ?_ | refine L.lda U U U U U ?_) | ((with_reducible refine D.fieldAddr ?_); refine L.fab U U U U U ?_) | ((with_reducible refine D.call ?_); first | refine L.apt U U U U U U (by first | exact trivial | exact ⟨rfl, trivial⟩) U U (by first | omega | (simp; omega)) ?_ | refine L.c2 (copyTm_c _ _ (Nat.le_refl _) ?_) U U U U ?_) | ((with_reducible refine D.alloc ?_); refine L.al U U U ?_) | ((with_reducible refine D.store ?_); refine L.st U U U U U U U U U ?_) | ((with_reducible refine D.indexAddr ?_); refine L.ixt _ U U U U U U U (by assumption) ?_) | ((with_reducible refine D.ax ?_); refine L.bs1 U U U U U (EC.fold_of U) U U ?_) | ((with_reducible refine D.aw ?_); first | refine K.sq (AW.regL ?_) | refine AW.regD mixed (by kernel_rfl) ?_) | with_reducible refine K.tN ?_ | with_reducible refine K.bN ?_ | ((with_reducible show @LT.lt Nat _ _ _); omega))
    exact ⟨rfl, trivial, (Weak.mk [some 0, some 1, some 2, some 5] _ _ _ U U U U (by (repeat' (first | exact trivial | refine And.intro ?_ ?_ | refine ⟨_, U, _, U, ?_⟩ | exact VLe.refl _)); done) (by (repeat' (first | exact trivial | exact Or.inr ⟨_, U, rfl⟩ | refine And.intro ?_ ?_ | refine ⟨_, U, _, U, _, U, ?_⟩ | exact VLe.refl _ | exact VLe.of_eq (by simp [Sto.upd, List.take_append_getElem]))); done))⟩
  · intro _
    simp only [List.take_length]
    repeat' (first | ((with_reducible refine D.nil ?_); refine AX.nilL ?_) | ((with_reducible refine D.load ?_); refine L.ldb U U U U U U ?_) | ((with_reducible refine D.move ?_); refine L.mv U U U ?_) | ((with_reducible refine D.fieldAddr ?_); refine L.fab U U U U U ?_) | ((with_reducible refine D.call ?_); refine L.lnt U U U U ?_) | ((with_reducible refine D.aw ?_); first | refine K.sq (K.sq ?_) | refine AW.regL ?_) | with_reducible refine K.tN ?_)
    refine AW.range f.args.length (fun m => True)
      (fun m => ([(1, .ptr 0 0), (2, .ptr 1 0), (3, .ptr 2 0), (30, .s .fm f.args), (31, .i f.args.length), (32, .i m)], ⟨5, [(0, .var f.view), (1, .var [.i 0, .i 0, .slice .nil (.t .ty []), .slice .nil (.t .tm []), .slice .nil (.t .fm [])]), (2, .var [.i f.kind, .i f.ty.kind, .s .ty f.ty.args, .slice (.own 3) (.t .tm f.terms), .slice (.own 4) (.t .fm (f.args.take m))]), (3, .row), (4, .row)]⟩))
      (by omega) (fun m => rfl) (fun m => rfl) U trivial (Weak.mk [some 0, some 1, some 2, some 3, none] _ _ _ U U U U (by (repeat' (first | exact trivial | refine And.intro ?_ ?_ | refine ⟨_, U, _, U, ?_⟩ | exact VLe.refl _)); done) (by (repeat' (first | exact trivial | exact Or.inl U | exact Or.inr ⟨_, U, rfl⟩ | refine And.intro ?_ ?_ | refine ⟨_, U, _, U, _, U, ?_⟩ | exact VLe.refl _)); done)) ?_ ?_
    · intro m hm _
      have hs2 := lsum_mem Fm.full (List.getElem_mem hm)
      repeat' (first | ((with_reducible refine D.nil ?_); first | refine AX.nilL ?_ | refine AX.nilD (by kernel_rfl) ?_) | ((with_reducible refine D.load ?_); first | refine L.ldb U U U U U U ?_ | refine L.lda U U U U U ?_) | ((with_reducible refine D.fieldAddr ?_); refine L.fab U U U U U ?_) | ((with_reducible refine D.call ?_); first | refine L.apt U U U U U U (by first | exact trivial | exact ⟨rfl, trivial⟩) U U (by first | omega | (simp; omega)) ?_ | refine L.c2 (ih _ ?_ ?_) U U U U ?_) | ((with_reducible refine D.alloc ?_); refine L.al U U U ?_) | ((with_reducible refine D.store ?_); refine L.st U U U U U U U U U ?_) | ((with_reducible refine D.indexAddr ?_); refine L.ixt _ U U U U U U U (by assumption) ?_) | ((with_reducible refine D.ax ?_); refine L.bs1 U U U U U (EC.fold_of U) U U ?_) | ((with_reducible refine D.aw ?_); first | refine K.sq (AW.regL ?_) | refine AW.regD mixed (by kernel_rfl) ?_) | with_reducible refine K.tN ?_ | with_reducible refine K.bN ?_ | ((with_reducible show @LE.le Nat _ _ _); omega) | ((with_reducible show @LT.lt Nat _ _ _); omega))
      exact ⟨rfl, trivial, (Weak.mk [some 0, some 1, some 2, some 3, some 6] _ _ _ U U U U (by (repeat' (first | exact trivial | refine And.intro ?_ ?_ | refine ⟨_, U, _, U, ?_⟩ | exact VLe.refl _)); done) (by (repeat' (first | exact trivial | exact Or.inr ⟨_, U, rfl⟩ | refine And.intro ?_ ?_ | refine ⟨_, U, _, U, _, U, ?_⟩ | exact VLe.refl _ | exact VLe.of_eq (by simp [Sto.upd, List.take_append_getElem]))); done))⟩
    · intro _
      simp only [List.take_length]
      repeat' (first | ((with_reducible refine D.nil ?_); refine AX.nilL ?_) | ((with_reducible refine D.load ?_); refine L.ldb U U U U U U ?_) | ((with_reducible refine D.store ?_); refine L.st U U U U U U U U U ?_) | ((with_reducible refine D.aw ?_); first | refine K.sq (AW.regL ?_) | refine AW.ret ?_) | with_reducible refine K.tN ?_ | with_reducible refine K.r1 (by with_unfolding_all rfl) (by with_unfolding_all rfl) ?_)
      rfl
theorem eqFm_c (a b : Tm) (ha : a.full < 1099511627776) (hb : b.full < 1099511627776) : PC E 36 [.agg a.view, .agg b.view] (.agg (eqF a b).view) := by
  have h1 := copyTm_c _ a (Nat.le_refl _) ha
  have h2 := copyTm_c _ b (Nat.le_refl _) hb
  refine AC.mk Tryz.func36 rfl rfl rfl rfl rfl (Nat.le_of_ble_eq_true rfl) ?_
  repeat' (first | ((with_reducible refine D.nil ?_); first | refine AX.nilL ?_ | refine AX.nilD (by kernel_rfl) ?_) | ((with_reducible refine D.load ?_); refine L.ldb U U U U U U ?_) | ((with_reducible refine D.call ?_); first | refine L.c2 (h1) U U U U ?_ | refine L.c2 (h2) U U U U ?_) | ((with_reducible refine D.box ?_); refine L.bx U U U U ?_) | ((with_reducible refine D.alloc ?_); refine L.al U U U ?_) | ((with_reducible refine D.store ?_); refine L.st U U U U U U U U U ?_) | ((with_reducible refine D.ax ?_); first | refine L.bd U U U U U ?_ | refine L.bs2 U U U U U (EC.fold_of U) U U U (EC.fold_of U) U U ?_) | ((with_reducible refine D.aw ?_); first | refine K.sq (AW.regL ?_) | refine K.sq (AW.regD mixed (by kernel_rfl) ?_) | refine AW.ret ?_) | with_reducible refine K.tN ?_ | with_reducible refine K.r1 (by with_unfolding_all rfl) (by with_unfolding_all rfl) ?_)
  rfl
theorem twoFm_c (k : Int) (a b : Fm) (ha : a.full < 1099511627776) (hb : b.full < 1099511627776) : PC E 85 [.i k, .agg a.view, .agg b.view] (.agg (Fm.mk k (.mk 0 []) [] [a, b]).view) := by
  have h1 := copyFm_c _ a (Nat.le_refl _) ha
  have h2 := copyFm_c _ b (Nat.le_refl _) hb
  refine AC.mk Tryz.func85 rfl rfl rfl rfl rfl (Nat.le_of_ble_eq_true rfl) ?_
  repeat' (first | ((with_reducible refine D.nil ?_); first | refine AX.nilL ?_ | refine AX.nilD (by kernel_rfl) ?_) | ((with_reducible refine D.load ?_); refine L.ldb U U U U U U ?_) | ((with_reducible refine D.move ?_); refine L.mv U U U ?_) | ((with_reducible refine D.call ?_); first | refine L.c2 (h1) U U U U ?_ | refine L.c2 (h2) U U U U ?_) | ((with_reducible refine D.box ?_); refine L.bx U U U U ?_) | ((with_reducible refine D.alloc ?_); refine L.al U U U ?_) | ((with_reducible refine D.store ?_); refine L.st U U U U U U U U U ?_) | ((with_reducible refine D.ax ?_); first | refine L.bd U U U U U ?_ | refine L.bs2 U U U U U (EC.fold_of U) U U U (EC.fold_of U) U U ?_) | ((with_reducible refine D.aw ?_); first | refine K.sq (AW.regL ?_) | refine K.sq (AW.regD mixed (by kernel_rfl) ?_) | refine AW.ret ?_) | with_reducible refine K.tN ?_ | with_reducible refine K.r1 (by with_unfolding_all rfl) (by with_unfolding_all rfl) ?_)
  rfl
theorem qFm_c (k : Int) (s : Ty) (f : Fm) (hs : s.size < 1099511627776) (hf : f.full < 1099511627776) : PC E 86 [.i k, .agg s.view, .agg f.view] (.agg (Fm.mk k s [] [f]).view) := by
  have h1 := copyTy_c _ s (Nat.le_refl _) hs
  have h2 := copyFm_c _ f (Nat.le_refl _) hf
  refine AC.mk Tryz.func86 rfl rfl rfl rfl rfl (Nat.le_of_ble_eq_true rfl) ?_
  repeat' (first | ((with_reducible refine D.nil ?_); first | refine AX.nilL ?_ | refine AX.nilD (by kernel_rfl) ?_) | ((with_reducible refine D.load ?_); refine L.ldb U U U U U U ?_) | ((with_reducible refine D.move ?_); refine L.mv U U U ?_) | ((with_reducible refine D.call ?_); first | refine L.c2 (h1) U U U U ?_ | refine L.c2 (h2) U U U U ?_) | ((with_reducible refine D.box ?_); refine L.bx U U U U ?_) | ((with_reducible refine D.alloc ?_); refine L.al U U U ?_) | ((with_reducible refine D.store ?_); refine L.st U U U U U U U U U ?_) | ((with_reducible refine D.ax ?_); first | refine L.bd U U U U U ?_ | refine L.bs1 U U U U U (EC.fold_of U) U U ?_) | ((with_reducible refine D.aw ?_); first | refine K.sq (AW.regL ?_) | refine K.sq (AW.regD mixed (by kernel_rfl) ?_) | refine AW.ret ?_) | with_reducible refine K.tN ?_ | with_reducible refine K.r1 (by with_unfolding_all rfl) (by with_unfolding_all rfl) ?_)
  rfl
theorem ownFmCb (t : Tm) (b : Int) (ht : t.full < 1099511627776) : PC E 89 [.agg t.view, .i b] (.agg t.view) := by
  have h1 := ownTm_c _ t (Nat.le_refl _) ht
  refine AC.mk Tryz.func89 rfl rfl rfl rfl rfl (Nat.le_of_ble_eq_true rfl) ?_
  repeat' (first | ((with_reducible refine D.nil ?_); refine AX.nilL ?_) | ((with_reducible refine D.load ?_); refine L.ldb U U U U U U ?_) | ((with_reducible refine D.call ?_); refine L.c2 (h1) U U U U ?_) | ((with_reducible refine D.box ?_); refine L.bx U U U U ?_) | ((with_reducible refine D.alloc ?_); refine L.al U U U ?_) | ((with_reducible refine D.store ?_); refine L.st U U U U U U U U U ?_) | ((with_reducible refine D.aw ?_); first | refine K.sq (AW.regL ?_) | refine AW.ret ?_) | with_reducible refine K.tN ?_ | with_reducible refine K.r1 (by with_unfolding_all rfl) (by with_unfolding_all rfl) ?_)
  simp [tupV, V.wk, V.wks, constV, Ty.view, Tm.view]
theorem ownFmRe : ∀ (n : Nat) (f : Fm) (bl : Int), f.full ≤ n → n < 549755813888 → 0 ≤ bl → bl + n < 549755813888 → PC E 88 [.agg f.view, .i bl, .fn (.func 89) [] []] (.agg f.view) := by
  intro n
  induction n with
  | zero => intro f bl h; have := f.full_pos; omega
  | succ n ih =>
  intro f bl hsz hb hbl hbn
  have hsz' := f.full_eq
  have hlen := lsum_len Fm.full Fm.full_pos f.args
  have hlen2 := lsum_len Tm.full Tm.full_pos f.terms
  have hty := ownTy_c _ f.ty (Nat.le_refl _) (by omega)
  have hq := quantifier_c f.kind
  refine AC.mk Tryz.func88 rfl rfl rfl rfl rfl (Nat.le_of_ble_eq_true rfl) ?_
  repeat' (first | ((with_reducible refine D.nil ?_); first | refine AX.nilL ?_ | refine AX.nilD (by kernel_rfl) ?_) | ((with_reducible refine D.load ?_); refine L.ldb U U U U U U ?_) | ((with_reducible refine D.move ?_); refine L.mv U U U ?_) | ((with_reducible refine D.fieldAddr ?_); refine L.fab U U U U U ?_) | ((with_reducible refine D.call ?_); first | refine L.lnt U U U U ?_ | refine L.c2 (hty) U U U U ?_) | ((with_reducible refine D.box ?_); refine L.bx U U U U ?_) | ((with_reducible refine D.alloc ?_); refine L.al U U U ?_) | ((with_reducible refine D.store ?_); refine L.st U U U U U U U U U ?_) | ((with_reducible refine D.ax ?_); refine L.bd U U U U U ?_) | ((with_reducible refine D.aw ?_); first | refine K.sq (AW.regL ?_) | refine K.sq (AW.regD mixed (by kernel_rfl) ?_) | refine K.sq (K.sq ?_) | refine AW.regL ?_) | with_reducible refine K.tN ?_)
  refine AW.range f.terms.length (fun m => True)
    (fun m => ([(1, .i bl), (2, .fn (.func 89) [] []), (3, .ptr 0 0), (6, .ptr 1 0), (7, .ptr 2 0), (19, .s .tm f.terms), (20, .i f.terms.length), (21, .i m)], ⟨4, [(0, .var f.view), (1, .var [.i 0, .i 0, .slice .nil (.t .ty []), .slice .nil (.t .tm []), .slice .nil (.t .fm [])]), (2, .var [.i f.kind, .i f.ty.kind, .s .ty f.ty.args, .slice (.own 3) (.t .tm (f.terms.take m)), .slice .nil (.t .fm [])]), (3, .row)]⟩))
    (by omega) (fun m => rfl) (fun m => rfl) U trivial (Weak.mk [some 0, some 1, some 2, none] _ _ _ U U U U (by (repeat' (first | exact trivial | refine And.intro ?_ ?_ | refine ⟨_, U, _, U, ?_⟩ | exact VLe.refl _)); done) (by (repeat' (first | exact trivial | exact Or.inl U | refine And.intro ?_ ?_ | refine ⟨_, U, _, U, _, U, ?_⟩ | exact VLe.refl _)); done)) ?_ ?_
  · intro m hm _
    have hs2 := lsum_mem Tm.full (List.getElem_mem hm)
    have hc := ownFmCb f.terms[m] bl (by omega)
    repeat' (first | ((with_reducible refine D.nil ?_); first | refine AX.nilL ?_ | refine AX.nilD (by kernel_rfl) ?_) | ((with_reducible refine D.load ?_); first | refine L.ldb U U U U U U ?_ | refine L.lda U U U U U ?_) | ((with_reducible refine D.move ?_); refine L.mv U U U ?_) | ((with_reducible refine D.fieldAddr ?_); refine L.fab U U U U U ?_) | ((with_reducible refine D.call ?_); first | refine L.apt U U U U U U (by first | exact trivial | exact ⟨rfl, trivial⟩) U U (by first | omega | (simp; omega)) ?_ | (apply L.cv2 (hc) [] 0 rfl; rfl; rfl; rfl; rfl; rfl; rfl; rfl; (focus ((repeat' (first | exact trivial)); done)); rfl; rfl; rfl; rfl)) | ((with_reducible refine D.alloc ?_); refine L.al U U U ?_) | ((with_reducible refine D.store ?_); refine L.st U U U U U U U U U ?_) | ((with_reducible refine D.indexAddr ?_); refine L.ixt _ U U U U U U U (by assumption) ?_) | ((with_reducible refine D.ax ?_); refine L.bs1 U U U U U (EC.fold_of U) U U ?_) | ((with_reducible refine D.aw ?_); first | refine K.sq (AW.regL ?_) | refine AW.regD mixed (by kernel_rfl) ?_) | with_reducible refine K.tN ?_ | with_reducible refine K.bN ?_)
    exact ⟨rfl, trivial, (Weak.mk [some 0, some 1, some 2, some 5] _ _ _ U U U U (by (repeat' (first | exact trivial | refine And.intro ?_ ?_ | refine ⟨_, U, _, U, ?_⟩ | exact VLe.refl _)); done) (by (repeat' (first | exact trivial | exact Or.inr ⟨_, U, rfl⟩ | refine And.intro ?_ ?_ | refine ⟨_, U, _, U, _, U, ?_⟩ | exact VLe.refl _ | exact VLe.of_eq (by simp [Sto.upd, List.take_append_getElem]))); done))⟩
  · intro _
    simp only [List.take_length]
    cases hqk : quantK f.kind with
    | true =>
      rw [hqk] at hq
      repeat' (first | ((with_reducible refine D.nil ?_); refine AX.nilL ?_) | ((with_reducible refine D.load ?_); refine L.ldb U U U U U U ?_) | ((with_reducible refine D.move ?_); refine L.mv U U U ?_) | ((with_reducible refine D.fieldAddr ?_); refine L.fab U U U U U ?_) | ((with_reducible refine D.assign ?_); refine L.asg U U U ?_) | ((with_reducible refine D.bin ?_); refine L.ad U U U U (by omega) ?_) | ((with_reducible refine D.call ?_); first | refine L.lnt U U U U ?_ | refine L.c2 (hq) U U U U ?_) | ((with_reducible refine D.aw ?_); first | refine K.sq (K.sq ?_) | refine AW.regL ?_ | refine AW.condT U ?_) | with_reducible refine K.tN ?_)
      refine AW.range f.args.length (fun m => True)
        (fun m => ([(1, .i (bl + 1)), (2, .fn (.func 89) [] []), (3, .ptr 0 0), (6, .ptr 1 0), (7, .ptr 2 0), (41, .s .fm f.args), (42, .i f.args.length), (43, .i m)], ⟨5, [(0, .var f.view), (1, .var [.i 0, .i 0, .slice .nil (.t .ty []), .slice .nil (.t .tm []), .slice .nil (.t .fm [])]), (2, .var [.i f.kind, .i f.ty.kind, .s .ty f.ty.args, .slice (.own 3) (.t .tm f.terms), .slice (.own 4) (.t .fm (f.args.take m))]), (3, .row), (4, .row)]⟩))
        (by omega) (fun m => rfl) (fun m => rfl) U trivial (Weak.mk [some 0, some 1, some 2, some 3, none] _ _ _ U U U U (by (repeat' (first | exact trivial | refine And.intro ?_ ?_ | refine ⟨_, U, _, U, ?_⟩ | exact VLe.refl _)); done) (by (repeat' (first | exact trivial | exact Or.inl U | exact Or.inr ⟨_, U, rfl⟩ | refine And.intro ?_ ?_ | refine ⟨_, U, _, U, _, U, ?_⟩ | exact VLe.refl _)); done)) ?_ ?_
      · intro m hm _
        have hs2 := lsum_mem Fm.full (List.getElem_mem hm)
        have hc := ih f.args[m] (bl + 1) (by omega) (by omega) (by omega) (by omega)
        repeat' (first | ((with_reducible refine D.nil ?_); first | refine AX.nilL ?_ | refine AX.nilD (by kernel_rfl) ?_) | ((with_reducible refine D.load ?_); first | refine L.ldb U U U U U U ?_ | refine L.lda U U U U U ?_) | ((with_reducible refine D.move ?_); refine L.mv U U U ?_) | ((with_reducible refine D.fieldAddr ?_); refine L.fab U U U U U ?_) | ((with_reducible refine D.call ?_); first | refine L.apt U U U U U U (by first | exact trivial | exact ⟨rfl, trivial⟩) U U (by first | omega | (simp; omega)) ?_ | refine L.c2 (hc) U U U U ?_) | ((with_reducible refine D.alloc ?_); refine L.al U U U ?_) | ((with_reducible refine D.store ?_); refine L.st U U U U U U U U U ?_) | ((with_reducible refine D.indexAddr ?_); refine L.ixt _ U U U U U U U (by assumption) ?_) | ((with_reducible refine D.ax ?_); refine L.bs1 U U U U U (EC.fold_of U) U U ?_) | ((with_reducible refine D.aw ?_); first | refine K.sq (AW.regL ?_) | refine AW.regD mixed (by kernel_rfl) ?_) | with_reducible refine K.tN ?_ | with_reducible refine K.bN ?_)
        exact ⟨rfl, trivial, (Weak.mk [some 0, some 1, some 2, some 3, some 6] _ _ _ U U U U (by (repeat' (first | exact trivial | refine And.intro ?_ ?_ | refine ⟨_, U, _, U, ?_⟩ | exact VLe.refl _)); done) (by (repeat' (first | exact trivial | exact Or.inr ⟨_, U, rfl⟩ | refine And.intro ?_ ?_ | refine ⟨_, U, _, U, _, U, ?_⟩ | exact VLe.refl _ | exact VLe.of_eq (by simp [Sto.upd, List.take_append_getElem]))); done))⟩
      · intro _
        simp only [List.take_length]
        repeat' (first | ((with_reducible refine D.nil ?_); refine AX.nilL ?_) | ((with_reducible refine D.load ?_); refine L.ldb U U U U U U ?_) | ((with_reducible refine D.store ?_); refine L.st U U U U U U U U U ?_) | ((with_reducible refine D.aw ?_); first | refine K.sq (AW.regL ?_) | refine AW.ret ?_) | with_reducible refine K.tN ?_ | with_reducible refine K.r1 (by with_unfolding_all rfl) (by with_unfolding_all rfl) ?_)
        rfl
    | false =>
      rw [hqk] at hq
      repeat' (first | ((with_reducible refine D.nil ?_); refine AX.nilL ?_) | ((with_reducible refine D.load ?_); refine L.ldb U U U U U U ?_) | ((with_reducible refine D.move ?_); refine L.mv U U U ?_) | ((with_reducible refine D.fieldAddr ?_); refine L.fab U U U U U ?_) | ((with_reducible refine D.call ?_); first | refine L.lnt U U U U ?_ | refine L.c2 (hq) U U U U ?_) | ((with_reducible refine D.aw ?_); first | refine K.sq (K.sq ?_) | refine AW.regL ?_ | refine AW.condF U ?_ | refine AW.skip ?_) | with_reducible refine K.tN ?_)
      refine AW.range f.args.length (fun m => True)
        (fun m => ([(1, .i bl), (2, .fn (.func 89) [] []), (3, .ptr 0 0), (6, .ptr 1 0), (7, .ptr 2 0), (41, .s .fm f.args), (42, .i f.args.length), (43, .i m)], ⟨5, [(0, .var f.view), (1, .var [.i 0, .i 0, .slice .nil (.t .ty []), .slice .nil (.t .tm []), .slice .nil (.t .fm [])]), (2, .var [.i f.kind, .i f.ty.kind, .s .ty f.ty.args, .slice (.own 3) (.t .tm f.terms), .slice (.own 4) (.t .fm (f.args.take m))]), (3, .row), (4, .row)]⟩))
        (by omega) (fun m => rfl) (fun m => rfl) U trivial (Weak.mk [some 0, some 1, some 2, some 3, none] _ _ _ U U U U (by (repeat' (first | exact trivial | refine And.intro ?_ ?_ | refine ⟨_, U, _, U, ?_⟩ | exact VLe.refl _)); done) (by (repeat' (first | exact trivial | exact Or.inl U | exact Or.inr ⟨_, U, rfl⟩ | refine And.intro ?_ ?_ | refine ⟨_, U, _, U, _, U, ?_⟩ | exact VLe.refl _)); done)) ?_ ?_
      · intro m hm _
        have hs2 := lsum_mem Fm.full (List.getElem_mem hm)
        have hc := ih f.args[m] bl (by omega) (by omega) (by omega) (by omega)
        repeat' (first | ((with_reducible refine D.nil ?_); first | refine AX.nilL ?_ | refine AX.nilD (by kernel_rfl) ?_) | ((with_reducible refine D.load ?_); first | refine L.ldb U U U U U U ?_ | refine L.lda U U U U U ?_) | ((with_reducible refine D.move ?_); refine L.mv U U U ?_) | ((with_reducible refine D.fieldAddr ?_); refine L.fab U U U U U ?_) | ((with_reducible refine D.call ?_); first | refine L.apt U U U U U U (by first | exact trivial | exact ⟨rfl, trivial⟩) U U (by first | omega | (simp; omega)) ?_ | refine L.c2 (hc) U U U U ?_) | ((with_reducible refine D.alloc ?_); refine L.al U U U ?_) | ((with_reducible refine D.store ?_); refine L.st U U U U U U U U U ?_) | ((with_reducible refine D.indexAddr ?_); refine L.ixt _ U U U U U U U (by assumption) ?_) | ((with_reducible refine D.ax ?_); refine L.bs1 U U U U U (EC.fold_of U) U U ?_) | ((with_reducible refine D.aw ?_); first | refine K.sq (AW.regL ?_) | refine AW.regD mixed (by kernel_rfl) ?_) | with_reducible refine K.tN ?_ | with_reducible refine K.bN ?_)
        exact ⟨rfl, trivial, (Weak.mk [some 0, some 1, some 2, some 3, some 6] _ _ _ U U U U (by (repeat' (first | exact trivial | refine And.intro ?_ ?_ | refine ⟨_, U, _, U, ?_⟩ | exact VLe.refl _)); done) (by (repeat' (first | exact trivial | exact Or.inr ⟨_, U, rfl⟩ | refine And.intro ?_ ?_ | refine ⟨_, U, _, U, _, U, ?_⟩ | exact VLe.refl _ | exact VLe.of_eq (by simp [Sto.upd, List.take_append_getElem]))); done))⟩
      · intro _
        simp only [List.take_length]
        repeat' (first | ((with_reducible refine D.nil ?_); refine AX.nilL ?_) | ((with_reducible refine D.load ?_); refine L.ldb U U U U U U ?_) | ((with_reducible refine D.store ?_); refine L.st U U U U U U U U U ?_) | ((with_reducible refine D.aw ?_); first | refine K.sq (AW.regL ?_) | refine AW.ret ?_) | with_reducible refine K.tN ?_ | with_reducible refine K.r1 (by with_unfolding_all rfl) (by with_unfolding_all rfl) ?_)
        rfl
theorem ownFm_c (f : Fm) (hf : f.full < 274877906944) : PC E 43 [.agg f.view] (.agg f.view) := by
  have h1 := ownFmRe _ f 0 (Nat.le_refl _) (by omega) (by omega) (by omega)
  refine AC.mk Tryz.func43 rfl rfl rfl rfl rfl (Nat.le_of_ble_eq_true rfl) ?_
  repeat' (first | ((with_reducible refine D.nil ?_); refine AX.nilL ?_) | ((with_reducible refine D.load ?_); refine L.ldb U U U U U U ?_) | ((with_reducible refine D.call ?_); refine L.c2 (h1) U U U U ?_) | ((with_reducible refine D.box ?_); refine L.bx U U U U ?_) | ((with_reducible refine D.alloc ?_); refine L.al U U U ?_) | ((with_reducible refine D.store ?_); refine L.st U U U U U U U U U ?_) | ((with_reducible refine D.aw ?_); first | refine K.sq (AW.regL ?_) | refine AW.ret ?_) | with_reducible refine K.tN ?_ | with_reducible refine K.r1 (by with_unfolding_all rfl) (by with_unfolding_all rfl) ?_)
  rfl
end Go.Ab
namespace Go.Ab
open Go Go.Proofs
set_option maxRecDepth 100000
set_option maxHeartbeats 4000000
set_option linter.all false
theorem type0_c (d : Dk) (h : d.ok) : AC E 27 [.ptr 0 0, .i 0] ⟨1, [(0, .var d.cells)]⟩ (.agg (d.type 0).1.view) ⟨1, [(0, .var (d.type 0).2.cells)]⟩ := type_c 0 0 d (by omega) (by omega) (by omega) h
theorem mkFm_c : ∀ (n : Nat) (d : Dk) (g : List Ty) (k : Int), n ≤ 3 → k = n → d.ok → smalls g → g.length + n ≤ 5000 →
    AC E 41 [.ptr 0 0, .s .ty g, .i k] ⟨1, [(0, .var d.cells)]⟩ (.agg (Dk.fm n d g).1.view) ⟨1, [(0, .var (Dk.fm n d g).2.cells)]⟩ := by
  have bd : ∀ (n : Nat) (d : Dk) (g : List Ty), n ≤ 3 → smalls g → (Dk.fm n d g).1.full ≤ 10000 := fun n d g hn hg => by
    have h1 := (Dk.fm_good n d g hg).2.2
    have h2 : 2 ^ n ≤ 2 ^ 3 := Nat.pow_le_pow_right (by omega) hn
    omega
  have eqc : ∀ (d : Dk) (g : List Ty), d.ok → smalls g → g.length ≤ 5000 → ∃ (x : Tm) (d1 : Dk) (y : Tm) (d2 : Dk), d.eqf g = (eqF x y, d2) ∧ x.full ≤ 1000 ∧ y.full ≤ 1000 ∧
      AC E 28 [.ptr 0 0, .s .ty g, .agg natT.view, .i 1] ⟨1, [(0, .var d.cells)]⟩ (.agg x.view) ⟨1, [(0, .var d1.cells)]⟩ ∧
      AC E 28 [.ptr 0 0, .s .ty g, .agg natT.view, .i 1] ⟨1, [(0, .var d1.cells)]⟩ (.agg y.view) ⟨1, [(0, .var d2.cells)]⟩ := fun d g hd hg hl => by
    have d1 := Dk.tm_ok 3 d g natT hd
    have m1 := (Dk.tm_mk 3 d g natT hg small_nat (by omega) (by omega)).full hg small_nat
    have m2 := (Dk.tm_mk 3 (Dk.tm 3 d g natT).2 g natT hg small_nat (by omega) (by omega)).full hg small_nat
    exact ⟨_, _, _, _, rfl, by omega, by omega, term_c 3 (by omega) d g natT 1 (by omega) hd hg small_nat (by omega) (by omega) (by omega),
      term_c 3 (by omega) (Dk.tm 3 d g natT).2 g natT 1 (by omega) d1 hg small_nat (by omega) (by omega) (by omega)⟩
  intro n
  induction n with
  | zero =>
    intro d g k _ hk hd hg hl
    obtain ⟨x, d1, y, d2, e, fx, fy, h1, h2⟩ := eqc d g hd hg (by omega)
    have he := eqFm_c x y (by omega) (by omega)
    rw [show Dk.fm 0 d g = (eqF x y, d2) from e]
    obtain rfl : k = 0 := hk
    refine AC.mk Tryz.func41 rfl rfl rfl rfl rfl (Nat.le_of_ble_eq_true rfl) ?_
    repeat' (first | ((with_reducible refine D.nil ?_); first | refine AX.nilL ?_ | refine AX.nilD (by kernel_rfl) ?_) | ((with_reducible refine D.load ?_); refine L.ldb U U U U U U ?_) | ((with_reducible refine D.move ?_); refine L.mv U U U ?_) | ((with_reducible refine D.bin ?_); refine L.bn U U U U U ?_) | ((with_reducible refine D.call ?_); first | refine L.c2 (nat_c) U U U U ?_ | (apply L.cb2 (h1) [0] 0 rfl; rfl; rfl; rfl; rfl; rfl; rfl; (focus ((repeat' (first | exact trivial | refine And.intro ?_ ?_ | refine ⟨_, U, _, U, _, U, ?_⟩ | exact VLe.refl _)); done)); rfl; rfl; rfl; rfl) | (apply L.cb2 (h2) [0] 0 rfl; rfl; rfl; rfl; rfl; rfl; rfl; (focus ((repeat' (first | exact trivial | refine And.intro ?_ ?_ | refine ⟨_, U, _, U, _, U, ?_⟩ | exact VLe.refl _)); done)); rfl; rfl; rfl; rfl) | refine L.c2 (he) U U U U ?_) | ((with_reducible refine D.alloc ?_); refine L.al U U U ?_) | ((with_reducible refine D.store ?_); refine L.st U U U U U U U U U ?_) | ((with_reducible refine D.aw ?_); first | refine K.sq (AW.regL ?_) | refine K.sq (AW.regD mixed (by kernel_rfl) ?_) | refine K.sq (K.sq ?_) | refine AW.regL ?_ | refine AW.condF U ?_ | refine AW.skip ?_ | refine AW.ret ?_) | with_reducible refine K.tN ?_)
    (exact K.n2 [some 0] U U U U U (by (repeat' (first | exact trivial | refine And.intro ?_ ?_ | refine ⟨_, U, _, U, _, U, ?_⟩ | exact VLe.refl _)); done) U (by simp [tupV, V.wk, V.wks, constV, Ty.view, Tm.view, eqF, Fm.view]))
  | succ n ih =>
  intro d g k hn hk hd hg hl
  have h9 := next_c d 9 hd (by omega)
  have hbd := Dk.next_bd d 9 (by omega)
  have d9 := Dk.next_ok hd 9
  have hkp : k > 0 := by omega
  have efm : Dk.fm (n + 1) d g = Dk.fm (n + 1) d g := rfl
  conv at efm => rhs; rw [Dk.fm]
  generalize hr : (d.next 9).1 = r at *
  generalize (d.next 9).2 = e1 at *
  have hr9 : r = 0 ∨ r = 1 ∨ r = 2 ∨ r = 3 ∨ r = 4 ∨ r = 5 ∨ r = 6 ∨ r = 7 ∨ r = 8 := by omega
  rcases hr9 with rfl | rfl | rfl | rfl | rfl | rfl | rfl | rfl | rfl
  · simp only [show ((0 : Int) = 1) = False by simp, show ((0 : Int) = 2) = False by simp, show ((0 : Int) = 3) = False by simp, show ((0 : Int) = 4) = False by simp, show ((0 : Int) = 5) = False by simp, show ((0 : Int) = 6) = False by simp, if_false, if_true, or_self, or_true, true_or, or_false, false_or] at efm
    rw [efm]
    have a1 := ih e1 g (k - 1) (by omega) (by omega) d9 hg (by omega)
    have f1 := bd n e1 g (by omega) hg
    have k1 := Dk.fm_ok n e1 g d9
    generalize (Dk.fm n e1 g).1 = x at *
    generalize (Dk.fm n e1 g).2 = e2 at *
    have a2 := ih e2 g (k - 1) (by omega) (by omega) k1 hg (by omega)
    have f2 := bd n e2 g (by omega) hg
    generalize (Dk.fm n e2 g).1 = y at *
    generalize (Dk.fm n e2 g).2 = e3 at *
    have hw := twoFm_c 2 x y (by omega) (by omega)
    refine AC.mk Tryz.func41 rfl rfl rfl rfl rfl (Nat.le_of_ble_eq_true rfl) ?_
    repeat' (first | ((with_reducible refine D.nil ?_); refine AX.nilL ?_) | ((with_reducible refine D.move ?_); refine L.mv U U U ?_) | ((with_reducible refine D.assign ?_); refine L.asg U U U ?_) | ((with_reducible refine D.bin ?_); first | refine L.sb U U U U (by omega) ?_ | refine L.bn U U U U U ?_) | ((with_reducible refine D.call ?_); first | (apply L.cb2 (h9) [0] 0 rfl; rfl; rfl; rfl; rfl; rfl; rfl; (focus ((repeat' (first | exact trivial | refine And.intro ?_ ?_ | refine ⟨_, U, _, U, _, U, ?_⟩ | exact VLe.refl _)); done)); rfl; rfl; rfl; rfl) | (apply L.cb2 (a1) [0] 0 rfl; rfl; rfl; rfl; rfl; rfl; rfl; (focus ((repeat' (first | exact trivial | refine And.intro ?_ ?_ | refine ⟨_, U, _, U, _, U, ?_⟩ | exact VLe.refl _)); done)); rfl; rfl; rfl; rfl) | (apply L.cb2 (a2) [0] 0 rfl; rfl; rfl; rfl; rfl; rfl; rfl; (focus ((repeat' (first | exact trivial | refine And.intro ?_ ?_ | refine ⟨_, U, _, U, _, U, ?_⟩ | exact VLe.refl _)); done)); rfl; rfl; rfl; rfl) | refine L.c2 (hw) U U U U ?_) | ((with_reducible refine D.alloc ?_); refine L.al U U U ?_) | ((with_reducible refine D.store ?_); refine L.st U U U U U U U U U ?_) | ((with_reducible refine D.aw ?_); first | ((with_reducible refine D.blk ?_); refine AW.block ?_) | refine K.sq (AW.regL ?_) | refine K.sq (K.sq ?_) | refine AW.regL ?_ | refine AW.condT U ?_ | refine AW.condS U (fun h => ?_) (fun h => ?_) | refine AW.skip ?_ | refine AW.ret ?_) | with_reducible refine K.tN ?_ | with_reducible refine K.tR ?_ | with_reducible refine K.bR ?_)
    all_goals first
      | (exfalso; simp at h; omega)
      | skip
    (exact K.n2 [some 0] U U U U U (by (repeat' (first | exact trivial | refine And.intro ?_ ?_ | refine ⟨_, U, _, U, _, U, ?_⟩ | exact VLe.refl _)); done) U (by simp [tupV, V.wk, V.wks, constV, Ty.view, Tm.view, twoF, Fm.view]))
  · simp only [show ((1 : Int) = 0) = False by simp, show ((1 : Int) = 2) = False by simp, show ((1 : Int) = 3) = False by simp, show ((1 : Int) = 4) = False by simp, show ((1 : Int) = 5) = False by simp, show ((1 : Int) = 6) = False by simp, if_false, if_true, or_self, or_true, true_or, or_false, false_or] at efm
    rw [efm]
    have a1 := ih e1 g (k - 1) (by omega) (by omega) d9 hg (by omega)
    have f1 := bd n e1 g (by omega) hg
    have k1 := Dk.fm_ok n e1 g d9
    generalize (Dk.fm n e1 g).1 = x at *
    generalize (Dk.fm n e1 g).2 = e2 at *
    have a2 := ih e2 g (k - 1) (by omega) (by omega) k1 hg (by omega)
    have f2 := bd n e2 g (by omega) hg
    generalize (Dk.fm n e2 g).1 = y at *
    generalize (Dk.fm n e2 g).2 = e3 at *
    have hw := twoFm_c 3 x y (by omega) (by omega)
    refine AC.mk Tryz.func41 rfl rfl rfl rfl rfl (Nat.le_of_ble_eq_true rfl) ?_
    repeat' (first | ((with_reducible refine D.nil ?_); refine AX.nilL ?_) | ((with_reducible refine D.move ?_); refine L.mv U U U ?_) | ((with_reducible refine D.assign ?_); refine L.asg U U U ?_) | ((with_reducible refine D.bin ?_); first | refine L.sb U U U U (by omega) ?_ | refine L.bn U U U U U ?_) | ((with_reducible refine D.call ?_); first | (apply L.cb2 (h9) [0] 0 rfl; rfl; rfl; rfl; rfl; rfl; rfl; (focus ((repeat' (first | exact trivial | refine And.intro ?_ ?_ | refine ⟨_, U, _, U, _, U, ?_⟩ | exact VLe.refl _)); done)); rfl; rfl; rfl; rfl) | (apply L.cb2 (a1) [0] 0 rfl; rfl; rfl; rfl; rfl; rfl; rfl; (focus ((repeat' (first | exact trivial | refine And.intro ?_ ?_ | refine ⟨_, U, _, U, _, U, ?_⟩ | exact VLe.refl _)); done)); rfl; rfl; rfl; rfl) | (apply L.cb2 (a2) [0] 0 rfl; rfl; rfl; rfl; rfl; rfl; rfl; (focus ((repeat' (first | exact trivial | refine And.intro ?_ ?_ | refine ⟨_, U, _, U, _, U, ?_⟩ | exact VLe.refl _)); done)); rfl; rfl; rfl; rfl) | refine L.c2 (hw) U U U U ?_) | ((with_reducible refine D.alloc ?_); refine L.al U U U ?_) | ((with_reducible refine D.store ?_); refine L.st U U U U U U U U U ?_) | ((with_reducible refine D.aw ?_); first | ((with_reducible refine D.blk ?_); refine AW.block ?_) | refine K.sq (AW.regL ?_) | refine K.sq (K.sq ?_) | refine AW.regL ?_ | refine AW.condT U ?_ | refine AW.condF U ?_ | refine AW.condS U (fun h => ?_) (fun h => ?_) | refine AW.skip ?_ | refine AW.ret ?_) | with_reducible refine K.tN ?_ | with_reducible refine K.tR ?_ | with_reducible refine K.bR ?_)
    all_goals first
      | (exfalso; simp at h; omega)
      | skip
    (exact K.n2 [some 0] U U U U U (by (repeat' (first | exact trivial | refine And.intro ?_ ?_ | refine ⟨_, U, _, U, _, U, ?_⟩ | exact VLe.refl _)); done) U (by simp [tupV, V.wk, V.wks, constV, Ty.view, Tm.view, twoF, Fm.view]))
  · simp only [show ((2 : Int) = 0) = False by simp, show ((2 : Int) = 1) = False by simp, show ((2 : Int) = 3) = False by simp, show ((2 : Int) = 4) = False by simp, show ((2 : Int) = 5) = False by simp, show ((2 : Int) = 6) = False by simp, if_false, if_true, or_self, or_true, true_or, or_false, false_or] at efm
    rw [efm]
    have a1 := ih e1 g (k - 1) (by omega) (by omega) d9 hg (by omega)
    have f1 := bd n e1 g (by omega) hg
    have k1 := Dk.fm_ok n e1 g d9
    generalize (Dk.fm n e1 g).1 = x at *
    generalize (Dk.fm n e1 g).2 = e2 at *
    have a2 := ih e2 g (k - 1) (by omega) (by omega) k1 hg (by omega)
    have f2 := bd n e2 g (by omega) hg
    generalize (Dk.fm n e2 g).1 = y at *
    generalize (Dk.fm n e2 g).2 = e3 at *
    have hw := twoFm_c 3 x y (by omega) (by omega)
    refine AC.mk Tryz.func41 rfl rfl rfl rfl rfl (Nat.le_of_ble_eq_true rfl) ?_
    repeat' (first | ((with_reducible refine D.nil ?_); refine AX.nilL ?_) | ((with_reducible refine D.move ?_); refine L.mv U U U ?_) | ((with_reducible refine D.assign ?_); refine L.asg U U U ?_) | ((with_reducible refine D.bin ?_); first | refine L.sb U U U U (by omega) ?_ | refine L.bn U U U U U ?_) | ((with_reducible refine D.call ?_); first | (apply L.cb2 (h9) [0] 0 rfl; rfl; rfl; rfl; rfl; rfl; rfl; (focus ((repeat' (first | exact trivial | refine And.intro ?_ ?_ | refine ⟨_, U, _, U, _, U, ?_⟩ | exact VLe.refl _)); done)); rfl; rfl; rfl; rfl) | (apply L.cb2 (a1) [0] 0 rfl; rfl; rfl; rfl; rfl; rfl; rfl; (focus ((repeat' (first | exact trivial | refine And.intro ?_ ?_ | refine ⟨_, U, _, U, _, U, ?_⟩ | exact VLe.refl _)); done)); rfl; rfl; rfl; rfl) | (apply L.cb2 (a2) [0] 0 rfl; rfl; rfl; rfl; rfl; rfl; rfl; (focus ((repeat' (first | exact trivial | refine And.intro ?_ ?_ | refine ⟨_, U, _, U, _, U, ?_⟩ | exact VLe.refl _)); done)); rfl; rfl; rfl; rfl) | refine L.c2 (hw) U U U U ?_) | ((with_reducible refine D.alloc ?_); refine L.al U U U ?_) | ((with_reducible refine D.store ?_); refine L.st U U U U U U U U U ?_) | ((with_reducible refine D.aw ?_); first | ((with_reducible refine D.blk ?_); refine AW.block ?_) | refine K.sq (AW.regL ?_) | refine K.sq (K.sq ?_) | refine AW.regL ?_ | refine AW.condT U ?_ | refine AW.condF U ?_ | refine AW.condS U (fun h => ?_) (fun h => ?_) | refine AW.skip ?_ | refine AW.ret ?_) | with_reducible refine K.tN ?_ | with_reducible refine K.tR ?_ | with_reducible refine K.bR ?_)
    all_goals first
      | (exfalso; simp at h; omega)
      | skip
    (exact K.n2 [some 0] U U U U U (by (repeat' (first | exact trivial | refine And.intro ?_ ?_ | refine ⟨_, U, _, U, _, U, ?_⟩ | exact VLe.refl _)); done) U (by simp [tupV, V.wk, V.wks, constV, Ty.view, Tm.view, twoF, Fm.view]))
  · simp only [show ((3 : Int) = 0) = False by simp, show ((3 : Int) = 1) = False by simp, show ((3 : Int) = 2) = False by simp, show ((3 : Int) = 4) = False by simp, show ((3 : Int) = 5) = False by simp, show ((3 : Int) = 6) = False by simp, if_false, if_true, or_self, or_true, true_or, or_false, false_or] at efm
    rw [efm]
    have ts := type1_c e1 d9
    have ss := Dk.type1 e1
    have k1 := Dk.type_ok 1 e1 d9
    generalize (e1.type 1).1 = s at *
    generalize (e1.type 1).2 = e2 at *
    have gs := smalls_app hg (smalls_cons ss smalls_nil)
    have hlg := longer_c g [s] (by simp; omega)
    have a1 := ih e2 (g ++ [s]) (k - 1) (by omega) (by omega) k1 gs (by simp; omega)
    have f1 := bd n e2 (g ++ [s]) (by omega) gs
    generalize (Dk.fm n e2 (g ++ [s])).1 = x at *
    generalize (Dk.fm n e2 (g ++ [s])).2 = e3 at *
    have hw := qFm_c 4 s x (by have := ss.2; omega) (by omega)
    refine AC.mk Tryz.func41 rfl rfl rfl rfl rfl (Nat.le_of_ble_eq_true rfl) ?_
    repeat' (first | ((with_reducible refine D.nil ?_); first | refine AX.nilL ?_ | refine AX.nilD (by kernel_rfl) ?_) | ((with_reducible refine D.load ?_); refine L.ldb U U U U U U ?_) | ((with_reducible refine D.move ?_); refine L.mv U U U ?_) | ((with_reducible refine D.assign ?_); refine L.asg U U U ?_) | ((with_reducible refine D.bin ?_); first | refine L.sb U U U U (by omega) ?_ | refine L.bn U U U U U ?_) | ((with_reducible refine D.call ?_); first | (apply L.cb2 (h9) [0] 0 rfl; rfl; rfl; rfl; rfl; rfl; rfl; (focus ((repeat' (first | exact trivial | refine And.intro ?_ ?_ | refine ⟨_, U, _, U, _, U, ?_⟩ | exact VLe.refl _)); done)); rfl; rfl; rfl; rfl) | (apply L.cb2 (ts) [0] 0 rfl; rfl; rfl; rfl; rfl; rfl; rfl; (focus ((repeat' (first | exact trivial | refine And.intro ?_ ?_ | refine ⟨_, U, _, U, _, U, ?_⟩ | exact VLe.refl _)); done)); rfl; rfl; rfl; rfl) | refine L.c2 (hlg) U U U U ?_ | (apply L.cb2 (a1) [0] 0 rfl; rfl; rfl; rfl; rfl; rfl; rfl; (focus ((repeat' (first | exact trivial | refine And.intro ?_ ?_ | refine ⟨_, U, _, U, _, U, ?_⟩ | exact VLe.refl _)); done)); rfl; rfl; rfl; rfl) | refine L.c2 (hw) U U U U ?_) | ((with_reducible refine D.alloc ?_); refine L.al U U U ?_) | ((with_reducible refine D.store ?_); refine L.st U U U U U U U U U ?_) | ((with_reducible refine D.ax ?_); refine L.bs1 U U U U U (EC.fold_of U) U U ?_) | ((with_reducible refine D.aw ?_); first | ((with_reducible refine D.blk ?_); refine AW.block ?_) | refine K.sq (AW.regL ?_) | refine K.sq (AW.regD mixed (by kernel_rfl) ?_) | refine K.sq (K.sq ?_) | refine AW.regL ?_ | refine AW.condT U ?_ | refine AW.condF U ?_ | refine AW.condS U (fun h => ?_) (fun h => ?_) | refine AW.skip ?_ | refine AW.ret ?_) | with_reducible refine K.tN ?_ | with_reducible refine K.tR ?_ | with_reducible refine K.bR ?_)
    all_goals first
      | (exfalso; simp at h; omega)
      | skip
    (exact K.n2 [some 0] U U U U U (by (repeat' (first | exact trivial | refine And.intro ?_ ?_ | refine ⟨_, U, _, U, _, U, ?_⟩ | exact VLe.refl _)); done) U (by simp [tupV, V.wk, V.wks, constV, Ty.view, Tm.view, quF, Fm.view]))
  · simp only [show ((4 : Int) = 0) = False by simp, show ((4 : Int) = 1) = False by simp, show ((4 : Int) = 2) = False by simp, show ((4 : Int) = 3) = False by simp, show ((4 : Int) = 5) = False by simp, show ((4 : Int) = 6) = False by simp, if_false, if_true, or_self, or_true, true_or, or_false, false_or] at efm
    rw [efm]
    have ts := type1_c e1 d9
    have ss := Dk.type1 e1
    have k1 := Dk.type_ok 1 e1 d9
    generalize (e1.type 1).1 = s at *
    generalize (e1.type 1).2 = e2 at *
    have gs := smalls_app hg (smalls_cons ss smalls_nil)
    have hlg := longer_c g [s] (by simp; omega)
    have a1 := ih e2 (g ++ [s]) (k - 1) (by omega) (by omega) k1 gs (by simp; omega)
    have f1 := bd n e2 (g ++ [s]) (by omega) gs
    generalize (Dk.fm n e2 (g ++ [s])).1 = x at *
    generalize (Dk.fm n e2 (g ++ [s])).2 = e3 at *
    have hw := qFm_c 4 s x (by have := ss.2; omega) (by omega)
    refine AC.mk Tryz.func41 rfl rfl rfl rfl rfl (Nat.le_of_ble_eq_true rfl) ?_
    repeat' (first | ((with_reducible refine D.nil ?_); first | refine AX.nilL ?_ | refine AX.nilD (by kernel_rfl) ?_) | ((with_reducible refine D.load ?_); refine L.ldb U U U U U U ?_) | ((with_reducible refine D.move ?_); refine L.mv U U U ?_) | ((with_reducible refine D.assign ?_); refine L.asg U U U ?_) | ((with_reducible refine D.bin ?_); first | refine L.sb U U U U (by omega) ?_ | refine L.bn U U U U U ?_) | ((with_reducible refine D.call ?_); first | (apply L.cb2 (h9) [0] 0 rfl; rfl; rfl; rfl; rfl; rfl; rfl; (focus ((repeat' (first | exact trivial | refine And.intro ?_ ?_ | refine ⟨_, U, _, U, _, U, ?_⟩ | exact VLe.refl _)); done)); rfl; rfl; rfl; rfl) | (apply L.cb2 (ts) [0] 0 rfl; rfl; rfl; rfl; rfl; rfl; rfl; (focus ((repeat' (first | exact trivial | refine And.intro ?_ ?_ | refine ⟨_, U, _, U, _, U, ?_⟩ | exact VLe.refl _)); done)); rfl; rfl; rfl; rfl) | refine L.c2 (hlg) U U U U ?_ | (apply L.cb2 (a1) [0] 0 rfl; rfl; rfl; rfl; rfl; rfl; rfl; (focus ((repeat' (first | exact trivial | refine And.intro ?_ ?_ | refine ⟨_, U, _, U, _, U, ?_⟩ | exact VLe.refl _)); done)); rfl; rfl; rfl; rfl) | refine L.c2 (hw) U U U U ?_) | ((with_reducible refine D.alloc ?_); refine L.al U U U ?_) | ((with_reducible refine D.store ?_); refine L.st U U U U U U U U U ?_) | ((with_reducible refine D.ax ?_); refine L.bs1 U U U U U (EC.fold_of U) U U ?_) | ((with_reducible refine D.aw ?_); first | ((with_reducible refine D.blk ?_); refine AW.block ?_) | refine K.sq (AW.regL ?_) | refine K.sq (AW.regD mixed (by kernel_rfl) ?_) | refine K.sq (K.sq ?_) | refine AW.regL ?_ | refine AW.condT U ?_ | refine AW.condF U ?_ | refine AW.condS U (fun h => ?_) (fun h => ?_) | refine AW.skip ?_ | refine AW.ret ?_) | with_reducible refine K.tN ?_ | with_reducible refine K.tR ?_ | with_reducible refine K.bR ?_)
    all_goals first
      | (exfalso; simp at h; omega)
      | skip
    (exact K.n2 [some 0] U U U U U (by (repeat' (first | exact trivial | refine And.intro ?_ ?_ | refine ⟨_, U, _, U, _, U, ?_⟩ | exact VLe.refl _)); done) U (by simp [tupV, V.wk, V.wks, constV, Ty.view, Tm.view, quF, Fm.view]))
  · simp only [show ((5 : Int) = 0) = False by simp, show ((5 : Int) = 1) = False by simp, show ((5 : Int) = 2) = False by simp, show ((5 : Int) = 3) = False by simp, show ((5 : Int) = 4) = False by simp, show ((5 : Int) = 6) = False by simp, if_false, if_true, or_self, or_true, true_or, or_false, false_or] at efm
    rw [efm]
    have ts := type1_c e1 d9
    have ss := Dk.type1 e1
    have k1 := Dk.type_ok 1 e1 d9
    generalize (e1.type 1).1 = s at *
    generalize (e1.type 1).2 = e2 at *
    have gs := smalls_app hg (smalls_cons ss smalls_nil)
    have hlg := longer_c g [s] (by simp; omega)
    have a1 := ih e2 (g ++ [s]) (k - 1) (by omega) (by omega) k1 gs (by simp; omega)
    have f1 := bd n e2 (g ++ [s]) (by omega) gs
    generalize (Dk.fm n e2 (g ++ [s])).1 = x at *
    generalize (Dk.fm n e2 (g ++ [s])).2 = e3 at *
    have hw := qFm_c 5 s x (by have := ss.2; omega) (by omega)
    refine AC.mk Tryz.func41 rfl rfl rfl rfl rfl (Nat.le_of_ble_eq_true rfl) ?_
    repeat' (first | ((with_reducible refine D.nil ?_); first | refine AX.nilL ?_ | refine AX.nilD (by kernel_rfl) ?_) | ((with_reducible refine D.load ?_); refine L.ldb U U U U U U ?_) | ((with_reducible refine D.move ?_); refine L.mv U U U ?_) | ((with_reducible refine D.assign ?_); refine L.asg U U U ?_) | ((with_reducible refine D.bin ?_); first | refine L.sb U U U U (by omega) ?_ | refine L.bn U U U U U ?_) | ((with_reducible refine D.call ?_); first | (apply L.cb2 (h9) [0] 0 rfl; rfl; rfl; rfl; rfl; rfl; rfl; (focus ((repeat' (first | exact trivial | refine And.intro ?_ ?_ | refine ⟨_, U, _, U, _, U, ?_⟩ | exact VLe.refl _)); done)); rfl; rfl; rfl; rfl) | (apply L.cb2 (ts) [0] 0 rfl; rfl; rfl; rfl; rfl; rfl; rfl; (focus ((repeat' (first | exact trivial | refine And.intro ?_ ?_ | refine ⟨_, U, _, U, _, U, ?_⟩ | exact VLe.refl _)); done)); rfl; rfl; rfl; rfl) | refine L.c2 (hlg) U U U U ?_ | (apply L.cb2 (a1) [0] 0 rfl; rfl; rfl; rfl; rfl; rfl; rfl; (focus ((repeat' (first | exact trivial | refine And.intro ?_ ?_ | refine ⟨_, U, _, U, _, U, ?_⟩ | exact VLe.refl _)); done)); rfl; rfl; rfl; rfl) | refine L.c2 (hw) U U U U ?_) | ((with_reducible refine D.alloc ?_); refine L.al U U U ?_) | ((with_reducible refine D.store ?_); refine L.st U U U U U U U U U ?_) | ((with_reducible refine D.ax ?_); refine L.bs1 U U U U U (EC.fold_of U) U U ?_) | ((with_reducible refine D.aw ?_); first | ((with_reducible refine D.blk ?_); refine AW.block ?_) | refine K.sq (AW.regL ?_) | refine K.sq (AW.regD mixed (by kernel_rfl) ?_) | refine K.sq (K.sq ?_) | refine AW.regL ?_ | refine AW.condT U ?_ | refine AW.condF U ?_ | refine AW.condS U (fun h => ?_) (fun h => ?_) | refine AW.skip ?_ | refine AW.ret ?_) | with_reducible refine K.tN ?_ | with_reducible refine K.tR ?_ | with_reducible refine K.bR ?_)
    all_goals first
      | (exfalso; simp at h; omega)
      | skip
    (exact K.n2 [some 0] U U U U U (by (repeat' (first | exact trivial | refine And.intro ?_ ?_ | refine ⟨_, U, _, U, _, U, ?_⟩ | exact VLe.refl _)); done) U (by simp [tupV, V.wk, V.wks, constV, Ty.view, Tm.view, quF, Fm.view]))
  · simp only [show ((6 : Int) = 0) = False by simp, show ((6 : Int) = 1) = False by simp, show ((6 : Int) = 2) = False by simp, show ((6 : Int) = 3) = False by simp, show ((6 : Int) = 4) = False by simp, show ((6 : Int) = 5) = False by simp, if_false, if_true, or_self, or_true, true_or, or_false, false_or] at efm
    rw [efm]
    have ts := type0_c e1 d9
    have ss0 := Dk.type0 e1
    have ss := small_one ss0.1 ss0.2
    have k1 := Dk.type_ok 0 e1 d9
    generalize (e1.type 0).1 = s at *
    generalize (e1.type 0).2 = e2 at *
    have h2 := next_c e2 2 k1 (by omega)
    have hb2 := Dk.next_bd e2 2 (by omega)
    have k2 := Dk.next_ok k1 2
    generalize (e2.next 2).1 = u at *
    generalize (e2.next 2).2 = e3 at *
    have gs := smalls_app hg (smalls_cons ss smalls_nil)
    have hlg := longer_c g [s] (by simp; omega)
    have a1 := ih e3 (g ++ [s]) (k - 1) (by omega) (by omega) k2 gs (by simp; omega)
    have f1 := bd n e3 (g ++ [s]) (by omega) gs
    generalize (Dk.fm n e3 (g ++ [s])).1 = x at *
    generalize (Dk.fm n e3 (g ++ [s])).2 = e4 at *
    have hw := qFm_c (6 + u) s x (by have := ss.2; omega) (by omega)
    refine AC.mk Tryz.func41 rfl rfl rfl rfl rfl (Nat.le_of_ble_eq_true rfl) ?_
    repeat' (first | ((with_reducible refine D.nil ?_); first | refine AX.nilL ?_ | refine AX.nilD (by kernel_rfl) ?_) | ((with_reducible refine D.load ?_); refine L.ldb U U U U U U ?_) | ((with_reducible refine D.move ?_); refine L.mv U U U ?_) | ((with_reducible refine D.assign ?_); refine L.asg U U U ?_) | ((with_reducible refine D.bin ?_); first | refine L.ad U U U U (by omega) ?_ | refine L.sb U U U U (by omega) ?_ | refine L.bn U U U U U ?_) | ((with_reducible refine D.call ?_); first | (apply L.cb2 (h9) [0] 0 rfl; rfl; rfl; rfl; rfl; rfl; rfl; (focus ((repeat' (first | exact trivial | refine And.intro ?_ ?_ | refine ⟨_, U, _, U, _, U, ?_⟩ | exact VLe.refl _)); done)); rfl; rfl; rfl; rfl) | (apply L.cb2 (ts) [0] 0 rfl; rfl; rfl; rfl; rfl; rfl; rfl; (focus ((repeat' (first | exact trivial | refine And.intro ?_ ?_ | refine ⟨_, U, _, U, _, U, ?_⟩ | exact VLe.refl _)); done)); rfl; rfl; rfl; rfl) | (apply L.cb2 (h2) [0] 0 rfl; rfl; rfl; rfl; rfl; rfl; rfl; (focus ((repeat' (first | exact trivial | refine And.intro ?_ ?_ | refine ⟨_, U, _, U, _, U, ?_⟩ | exact VLe.refl _)); done)); rfl; rfl; rfl; rfl) | refine L.c2 (hlg) U U U U ?_ | (apply L.cb2 (a1) [0] 0 rfl; rfl; rfl; rfl; rfl; rfl; rfl; (focus ((repeat' (first | exact trivial | refine And.intro ?_ ?_ | refine ⟨_, U, _, U, _, U, ?_⟩ | exact VLe.refl _)); done)); rfl; rfl; rfl; rfl) | refine L.c2 (hw) U U U U ?_) | ((with_reducible refine D.alloc ?_); refine L.al U U U ?_) | ((with_reducible refine D.store ?_); refine L.st U U U U U U U U U ?_) | ((with_reducible refine D.ax ?_); refine L.bs1 U U U U U (EC.fold_of U) U U ?_) | ((with_reducible refine D.aw ?_); first | ((with_reducible refine D.blk ?_); refine AW.block ?_) | refine K.sq (AW.regL ?_) | refine K.sq (AW.regD mixed (by kernel_rfl) ?_) | refine K.sq (K.sq ?_) | refine AW.regL ?_ | refine AW.condT U ?_ | refine AW.condF U ?_ | refine AW.condS U (fun h => ?_) (fun h => ?_) | refine AW.skip ?_ | refine AW.ret ?_) | with_reducible refine K.tN ?_ | with_reducible refine K.tR ?_ | with_reducible refine K.bR ?_)
    all_goals first
      | (exfalso; simp at h; omega)
      | skip
    (exact K.n2 [some 0] U U U U U (by (repeat' (first | exact trivial | refine And.intro ?_ ?_ | refine ⟨_, U, _, U, _, U, ?_⟩ | exact VLe.refl _)); done) U (by simp [tupV, V.wk, V.wks, constV, Ty.view, Tm.view, quF, Fm.view]))
  · simp only [show ((7 : Int) = 0) = False by simp, show ((7 : Int) = 1) = False by simp, show ((7 : Int) = 2) = False by simp, show ((7 : Int) = 3) = False by simp, show ((7 : Int) = 4) = False by simp, show ((7 : Int) = 5) = False by simp, show ((7 : Int) = 6) = False by simp, if_false, if_true, or_self, or_true, true_or, or_false, false_or] at efm
    rw [efm]
    obtain ⟨x, d1, y, d2, e, fx, fy, h1, h2⟩ := eqc e1 g d9 hg (by omega)
    rw [e]
    have he := eqFm_c x y (by omega) (by omega)
    refine AC.mk Tryz.func41 rfl rfl rfl rfl rfl (Nat.le_of_ble_eq_true rfl) ?_
    repeat' (first | ((with_reducible refine D.nil ?_); first | refine AX.nilL ?_ | refine AX.nilD (by kernel_rfl) ?_) | ((with_reducible refine D.load ?_); refine L.ldb U U U U U U ?_) | ((with_reducible refine D.move ?_); refine L.mv U U U ?_) | ((with_reducible refine D.assign ?_); refine L.asg U U U ?_) | ((with_reducible refine D.bin ?_); refine L.bn U U U U U ?_) | ((with_reducible refine D.call ?_); first | (apply L.cb2 (h9) [0] 0 rfl; rfl; rfl; rfl; rfl; rfl; rfl; (focus ((repeat' (first | exact trivial | refine And.intro ?_ ?_ | refine ⟨_, U, _, U, _, U, ?_⟩ | exact VLe.refl _)); done)); rfl; rfl; rfl; rfl) | refine L.c2 (nat_c) U U U U ?_ | (apply L.cb2 (h1) [0] 0 rfl; rfl; rfl; rfl; rfl; rfl; rfl; (focus ((repeat' (first | exact trivial | refine And.intro ?_ ?_ | refine ⟨_, U, _, U, _, U, ?_⟩ | exact VLe.refl _)); done)); rfl; rfl; rfl; rfl) | (apply L.cb2 (h2) [0] 0 rfl; rfl; rfl; rfl; rfl; rfl; rfl; (focus ((repeat' (first | exact trivial | refine And.intro ?_ ?_ | refine ⟨_, U, _, U, _, U, ?_⟩ | exact VLe.refl _)); done)); rfl; rfl; rfl; rfl) | refine L.c2 (he) U U U U ?_) | ((with_reducible refine D.alloc ?_); refine L.al U U U ?_) | ((with_reducible refine D.store ?_); refine L.st U U U U U U U U U ?_) | ((with_reducible refine D.aw ?_); first | ((with_reducible refine D.blk ?_); refine AW.block ?_) | refine K.sq (AW.regL ?_) | refine K.sq (AW.regD mixed (by kernel_rfl) ?_) | refine K.sq (K.sq ?_) | refine AW.regL ?_ | refine AW.condF U ?_ | refine AW.condS U (fun h => ?_) (fun h => ?_) | refine AW.skip ?_ | refine AW.ret ?_) | with_reducible refine K.tN ?_ | with_reducible refine K.bN ?_)
    all_goals first
      | (exfalso; simp at h; omega)
      | skip
    (exact K.n2 [some 0] U U U U U (by (repeat' (first | exact trivial | refine And.intro ?_ ?_ | refine ⟨_, U, _, U, _, U, ?_⟩ | exact VLe.refl _)); done) U (by simp [tupV, V.wk, V.wks, constV, Ty.view, Tm.view, eqF, Fm.view]))
  · simp only [show ((8 : Int) = 0) = False by simp, show ((8 : Int) = 1) = False by simp, show ((8 : Int) = 2) = False by simp, show ((8 : Int) = 3) = False by simp, show ((8 : Int) = 4) = False by simp, show ((8 : Int) = 5) = False by simp, show ((8 : Int) = 6) = False by simp, if_false, if_true, or_self, or_true, true_or, or_false, false_or] at efm
    rw [efm]
    obtain ⟨x, d1, y, d2, e, fx, fy, h1, h2⟩ := eqc e1 g d9 hg (by omega)
    rw [e]
    have he := eqFm_c x y (by omega) (by omega)
    refine AC.mk Tryz.func41 rfl rfl rfl rfl rfl (Nat.le_of_ble_eq_true rfl) ?_
    repeat' (first | ((with_reducible refine D.nil ?_); first | refine AX.nilL ?_ | refine AX.nilD (by kernel_rfl) ?_) | ((with_reducible refine D.load ?_); refine L.ldb U U U U U U ?_) | ((with_reducible refine D.move ?_); refine L.mv U U U ?_) | ((with_reducible refine D.assign ?_); refine L.asg U U U ?_) | ((with_reducible refine D.bin ?_); refine L.bn U U U U U ?_) | ((with_reducible refine D.call ?_); first | (apply L.cb2 (h9) [0] 0 rfl; rfl; rfl; rfl; rfl; rfl; rfl; (focus ((repeat' (first | exact trivial | refine And.intro ?_ ?_ | refine ⟨_, U, _, U, _, U, ?_⟩ | exact VLe.refl _)); done)); rfl; rfl; rfl; rfl) | refine L.c2 (nat_c) U U U U ?_ | (apply L.cb2 (h1) [0] 0 rfl; rfl; rfl; rfl; rfl; rfl; rfl; (focus ((repeat' (first | exact trivial | refine And.intro ?_ ?_ | refine ⟨_, U, _, U, _, U, ?_⟩ | exact VLe.refl _)); done)); rfl; rfl; rfl; rfl) | (apply L.cb2 (h2) [0] 0 rfl; rfl; rfl; rfl; rfl; rfl; rfl; (focus ((repeat' (first | exact trivial | refine And.intro ?_ ?_ | refine ⟨_, U, _, U, _, U, ?_⟩ | exact VLe.refl _)); done)); rfl; rfl; rfl; rfl) | refine L.c2 (he) U U U U ?_) | ((with_reducible refine D.alloc ?_); refine L.al U U U ?_) | ((with_reducible refine D.store ?_); refine L.st U U U U U U U U U ?_) | ((with_reducible refine D.aw ?_); first | ((with_reducible refine D.blk ?_); refine AW.block ?_) | refine K.sq (AW.regL ?_) | refine K.sq (AW.regD mixed (by kernel_rfl) ?_) | refine K.sq (K.sq ?_) | refine AW.regL ?_ | refine AW.condF U ?_ | refine AW.condS U (fun h => ?_) (fun h => ?_) | refine AW.skip ?_ | refine AW.ret ?_) | with_reducible refine K.tN ?_ | with_reducible refine K.bN ?_)
    all_goals first
      | (exfalso; simp at h; omega)
      | skip
    (exact K.n2 [some 0] U U U U U (by (repeat' (first | exact trivial | refine And.intro ?_ ?_ | refine ⟨_, U, _, U, _, U, ?_⟩ | exact VLe.refl _)); done) U (by simp [tupV, V.wk, V.wks, constV, Ty.view, Tm.view, eqF, Fm.view]))
end Go.Ab
namespace Go.Ab
open Go Go.Proofs
set_option maxRecDepth 100000
set_option maxHeartbeats 4000000
set_option linter.all false
theorem sameAllTm_r (l : List Tm) (h : (l.map Tm.full).sum < 1099511627776) : PC E 13 [.s .tm l, .s .tm l] (.bool true) := by
  have hlen := lsum_len Tm.full Tm.full_pos l
  refine AC.mk Tryz.func13 rfl rfl rfl rfl rfl (Nat.le_of_ble_eq_true rfl) ?_
  repeat' (first | ((with_reducible refine D.nil ?_); refine AX.nilL ?_) | ((with_reducible refine D.move ?_); refine L.mv U U U ?_) | ((with_reducible refine D.assign ?_); refine L.asg U U U ?_) | ((with_reducible refine D.bin ?_); refine L.bn U U U U U ?_) | ((with_reducible refine D.call ?_); refine L.lnt U U U U ?_) | ((with_reducible refine D.aw ?_); first | refine K.sq (AW.regL ?_) | refine K.sq (K.sq ?_) | refine AW.regL ?_ | refine AW.condS U (fun h => ?_) (fun h => ?_) | refine AW.skip ?_ | refine AW.ret ?_) | with_reducible refine K.tN ?_ | with_reducible refine K.tR ?_ | with_reducible refine K.r1 (by with_unfolding_all rfl) (by with_unfolding_all rfl) ?_)
  · exfalso; simp at h
  refine AW.range l.length (fun m => True) (fun m => ([(0, .s .tm l), (1, .s .tm l), (11, .s .tm l), (12, .i l.length), (13, .i m)], ⟨0, []⟩))
    (by omega) (fun m => rfl) (fun m => rfl) U trivial (Weak.mk [] _ _ _ U U U U (by (repeat' (first | exact trivial | refine And.intro ?_ ?_ | refine ⟨_, U, _, U, ?_⟩ | exact VLe.refl _)); done) (by (repeat' (first | exact trivial)); done)) ?_ ?_
  · intro m hm _
    have hs2 := lsum_mem Tm.full (List.getElem_mem hm)
    have hc := sameTm_r l[m] (by omega)
    repeat' (first | ((with_reducible refine D.nil ?_); first | refine AX.nilL ?_ | refine AX.nilD (by kernel_rfl) ?_) | ((with_reducible refine D.load ?_); refine L.lda U U U U U ?_) | ((with_reducible refine D.move ?_); refine L.mv U U U ?_) | ((with_reducible refine D.assign ?_); refine L.asg U U U ?_) | ((with_reducible refine D.call ?_); refine L.c2 (hc) U U U U ?_) | ((with_reducible refine D.indexAddr ?_); refine L.ixt _ U U U U U U U (by assumption) ?_) | ((with_reducible refine D.not ?_); refine L.nt U U U ?_) | ((with_reducible refine D.aw ?_); first | refine K.sq (AW.regL ?_) | refine K.sq (AW.regD mixed (by kernel_rfl) ?_) | refine AW.condF U ?_ | refine AW.skip ?_) | with_reducible refine K.tN ?_ | with_reducible refine K.bN ?_)
    exact ⟨rfl, trivial, (Weak.mk [] _ _ _ U U U U (by (repeat' (first | exact trivial | refine And.intro ?_ ?_ | refine ⟨_, U, _, U, ?_⟩ | exact VLe.refl _)); done) (by (repeat' (first | exact trivial)); done))⟩
  · intro _
    repeat' (first | ((with_reducible refine D.nil ?_); refine AX.nilL ?_) | ((with_reducible refine D.assign ?_); refine L.asg U U U ?_) | ((with_reducible refine D.aw ?_); first | refine K.sq (AW.regL ?_) | refine AW.ret ?_) | with_reducible refine K.tN ?_ | with_reducible refine K.r1 (by with_unfolding_all rfl) (by with_unfolding_all rfl) ?_)
    rfl
theorem sameFm_r : ∀ (n : Nat) (f : Fm), f.full ≤ n → n < 1099511627776 → PC E 14 [.agg f.view, .agg f.view] (.bool true) := by
  intro n
  induction n with
  | zero => intro f h; have := f.full_pos; omega
  | succ n ih =>
  intro f hsz hn
  have hsz' := f.full_eq
  have hlen := lsum_len Fm.full Fm.full_pos f.args
  have h1 := sameTy_r f.ty (by omega)
  have h2 := sameAllTm_r f.terms (by omega)
  refine AC.mk Tryz.func14 rfl rfl rfl rfl rfl (Nat.le_of_ble_eq_true rfl) ?_
  repeat' (first | ((with_reducible refine D.nil ?_); refine AX.nilL ?_) | ((with_reducible refine D.load ?_); first | refine L.ldb U U U U U U ?_ | refine AX.sk U U ?_) | ((with_reducible refine D.move ?_); refine L.mv U U U ?_) | ((with_reducible refine D.fieldAddr ?_); first | refine L.fab U U U U U ?_ | refine AX.sk U U ?_ | ((fail_if_success refine AX.wt U ?_); refine AX.gs U U (fun _ => trivial) (fun h => ?_) (fun h => ?_))) | ((with_reducible refine D.assign ?_); refine L.asg U U U ?_) | ((with_reducible refine D.bin ?_); first | refine L.bn U U U U U ?_ | refine AX.sk U U ?_) | ((with_reducible refine D.call ?_); first | refine L.lnt U U U U ?_ | refine L.c2 (h1) U U U U ?_ | refine L.c2 (h2) U U U U ?_ | refine AX.sk U U ?_) | ((with_reducible refine D.box ?_); refine L.bx U U U U ?_) | ((with_reducible refine D.not ?_); first | refine L.nt U U U ?_ | refine AX.sk U U ?_) | ((with_reducible refine D.pick ?_); refine L.pk U U U U ?_) | ((with_reducible refine D.aw ?_); first | refine K.sq (AW.regL ?_) | refine K.sq (K.sq ?_) | refine AW.regL ?_ | refine AW.condT U ?_ | refine AW.condS U (fun h => ?_) (fun h => ?_) | refine AW.skip ?_ | refine AW.ret ?_) | with_reducible refine K.tN ?_ | with_reducible refine K.tR ?_ | with_reducible refine K.r1 (by with_unfolding_all rfl) (by with_unfolding_all rfl) ?_)
  all_goals first
    | (exfalso; simp at h; done)
    | skip
  refine AW.range f.args.length (fun m => True) (fun m => ([(2, .ptr 0 0), (3, .ptr 1 0), (37, .s .fm f.args), (38, .i f.args.length), (39, .i m)], ⟨2, [(0, .var f.view), (1, .var f.view)]⟩))
    (by omega) (fun m => rfl) (fun m => rfl) U trivial (Weak.mk [some 0, some 1] _ _ _ U U U U (by (repeat' (first | exact trivial | refine And.intro ?_ ?_ | refine ⟨_, U, _, U, ?_⟩ | exact VLe.refl _)); done) (by (repeat' (first | exact trivial | refine And.intro ?_ ?_ | refine ⟨_, U, _, U, _, U, ?_⟩ | exact VLe.refl _)); done)) ?_ ?_
  · intro m hm _
    have hs2 := lsum_mem Fm.full (List.getElem_mem hm)
    have hc := ih f.args[m] (by omega) (by omega)
    repeat' (first | ((with_reducible refine D.nil ?_); first | refine AX.nilL ?_ | refine AX.nilD (by kernel_rfl) ?_) | ((with_reducible refine D.load ?_); first | refine L.ldb U U U U U U ?_ | refine L.lda U U U U U ?_) | ((with_reducible refine D.move ?_); refine L.mv U U U ?_) | ((with_reducible refine D.fieldAddr ?_); refine L.fab U U U U U ?_) | ((with_reducible refine D.assign ?_); refine L.asg U U U ?_) | ((with_reducible refine D.call ?_); refine L.c2 (hc) U U U U ?_) | ((with_reducible refine D.indexAddr ?_); refine L.ixt _ U U U U U U U (by assumption) ?_) | ((with_reducible refine D.not ?_); refine L.nt U U U ?_) | ((with_reducible refine D.aw ?_); first | refine K.sq (AW.regL ?_) | refine K.sq (AW.regD mixed (by kernel_rfl) ?_) | refine AW.condF U ?_ | refine AW.skip ?_) | with_reducible refine K.tN ?_ | with_reducible refine K.bN ?_)
    exact ⟨rfl, trivial, (Weak.mk [some 0, some 1] _ _ _ U U U U (by (repeat' (first | exact trivial | refine And.intro ?_ ?_ | refine ⟨_, U, _, U, ?_⟩ | exact VLe.refl _)); done) (by (repeat' (first | exact trivial | refine And.intro ?_ ?_ | refine ⟨_, U, _, U, _, U, ?_⟩ | exact VLe.refl _)); done))⟩
  · intro _
    repeat' (first | ((with_reducible refine D.nil ?_); refine AX.nilL ?_) | ((with_reducible refine D.assign ?_); refine L.asg U U U ?_) | ((with_reducible refine D.aw ?_); first | refine K.sq (AW.regL ?_) | refine AW.ret ?_) | with_reducible refine K.tN ?_ | with_reducible refine K.r1 (by with_unfolding_all rfl) (by with_unfolding_all rfl) ?_)
    rfl
theorem partsFm_c (qs : List (Int × Ty)) (ps : List Fm) (c : Fm) (hq : ∀ q ∈ qs, q.1 = 4 ∨ q.1 = 6) (hb : (imFs ps c).kind ≠ 4 ∧ (imFs ps c).kind ≠ 6) (h3 : c.kind ≠ 3) (hf : (quFs qs (imFs ps c)).full < 137438953472) :
    PC E 63 [.agg (quFs qs (imFs ps c)).view] (.tup [.s .ty (qs.map (·.2)), .s .fm ps, .agg c.view]) := by
  have hl := quFs_len qs (imFs ps c)
  have hl2 := imFs_len ps c
  have hcf := imFs_full ps c
  have hco := ownFm_c c (by omega)
  refine AC.mk Tryz.func63 rfl rfl rfl rfl rfl (Nat.le_of_ble_eq_true rfl) ?_
  repeat' (first | ((with_reducible refine D.nil ?_); refine AX.nilL ?_) | ((with_reducible refine D.assign ?_); refine L.asg U U U ?_) | ((with_reducible refine D.box ?_); refine L.bx U U U U ?_) | ((with_reducible refine D.alloc ?_); refine L.al U U U ?_) | ((with_reducible refine D.aw ?_); refine K.sq (AW.regL ?_)) | with_reducible refine K.tN ?_)
  refine K.sq (AW.block (AW.loop (ι := { m : Nat // m ≤ qs.length })
    (fun m => ([(1, .ptr 0 0), (4, .ptr 1 0), (5, .slice (.own 2) (.t .ty ((qs.take m.1).map (·.2))))], ⟨3, [(0, .var (quFs (qs.drop m.1) (imFs ps c)).view), (1, .var [.i 0, .i 0, .slice .nil (.t .ty []), .slice .nil (.t .tm []), .slice .nil (.t .fm [])]), (2, .row)]⟩))
    (fun m => qs.length - m.1) ⟨0, Nat.zero_le _⟩ (Weak.mk [some 0, some 1, none] _ _ _ U U U U (by (repeat' (first | exact trivial | refine And.intro ?_ ?_ | refine ⟨_, U, _, U, ?_⟩ | exact VLe.refl _)); done) (by (repeat' (first | exact trivial | exact Or.inl U | refine And.intro ?_ ?_ | refine ⟨_, U, _, U, _, U, ?_⟩ | exact VLe.refl _)); done)) fun ⟨m, hm⟩ => ?_))
  by_cases hlt : m < qs.length
  · have e := quFs_drop (b := imFs ps c) hlt
    have hx := quFs_mem (b := imFs ps c) hlt
    have hcx := ownTy_c _ qs[m].2 (Nat.le_refl _) (by omega)
    have et : (qs.take (m + 1)).map (·.2) = (qs.take m).map (·.2) ++ [qs[m].2] := map_take (fun q : Int × Ty => q.2) qs m hlt
    have hln : ((qs.take m).map (·.2)).length ≤ qs.length := by simp; omega
    rcases hq _ (List.getElem_mem hlt) with h4 | h4
    · rw [h4] at e
      simp only [e]
      repeat' (first | ((with_reducible refine D.nil ?_); refine AX.nilL ?_) | ((with_reducible refine D.load ?_); first | refine L.ldb U U U U U U ?_ | refine AX.sk U U ?_) | ((with_reducible refine D.move ?_); refine L.mv U U U ?_) | ((with_reducible refine D.fieldAddr ?_); first | refine L.fab U U U U U ?_ | refine AX.sk U U ?_) | ((with_reducible refine D.bin ?_); first | refine L.bn U U U U U ?_ | refine AX.sk U U ?_) | ((with_reducible refine D.pick ?_); refine L.pk U U U U ?_) | ((with_reducible refine D.aw ?_); first | refine K.sq (K.sq ?_) | refine AW.regL ?_ | refine AW.condT U ?_ | refine AW.skip ?_) | with_reducible refine K.tN ?_)
      refine AW.block ?_
      repeat' (first | ((with_reducible refine D.nil ?_); refine AX.nilD (by kernel_rfl) ?_) | ((with_reducible refine D.load ?_); first | refine L.ldb U U U U U U ?_ | refine L.lda U U U U U ?_) | ((with_reducible refine D.move ?_); refine L.mv U U U ?_) | ((with_reducible refine D.fieldAddr ?_); refine L.fab U U U U U ?_) | ((with_reducible refine D.assign ?_); refine L.asg U U U ?_) | ((with_reducible refine D.call ?_); first | refine L.apt U U U U U U (by first | exact trivial | exact ⟨rfl, trivial⟩) U U (by first | omega | (simp; omega)) ?_ | refine L.c2 (hcx) U U U U ?_) | ((with_reducible refine D.store ?_); refine L.st U U U U U U U U U ?_) | ((with_reducible refine D.indexAddr ?_); refine L.ixt _ U U U U U U U (by (simp; done)) ?_) | ((with_reducible refine D.ax ?_); refine L.bs1 U U U U U (EC.fold_of U) U U ?_) | ((with_reducible refine D.aw ?_); refine AW.regD mixed (by kernel_rfl) ?_) | with_reducible refine K.bN ?_)
      refine ⟨⟨m + 1, by omega⟩, by show qs.length - (m + 1) < qs.length - m; omega, ?_⟩
      simp only [et]
      exact (Weak.mk [some 0, some 1, some 3] _ _ _ U U U U (by (repeat' (first | exact trivial | refine And.intro ?_ ?_ | refine ⟨_, U, _, U, ?_⟩ | exact VLe.refl _)); done) (by (repeat' (first | exact trivial | exact Or.inr ⟨_, U, rfl⟩ | refine And.intro ?_ ?_ | refine ⟨_, U, _, U, _, U, ?_⟩ | exact VLe.refl _)); done))
    · rw [h4] at e
      simp only [e]
      repeat' (first | ((with_reducible refine D.nil ?_); refine AX.nilL ?_) | ((with_reducible refine D.load ?_); refine L.ldb U U U U U U ?_) | ((with_reducible refine D.move ?_); refine L.mv U U U ?_) | ((with_reducible refine D.fieldAddr ?_); refine L.fab U U U U U ?_) | ((with_reducible refine D.bin ?_); refine L.bn U U U U U ?_) | ((with_reducible refine D.pick ?_); refine L.pk U U U U ?_) | ((with_reducible refine D.aw ?_); first | refine K.sq (K.sq ?_) | refine AW.regL ?_ | refine AW.condT U ?_ | refine AW.skip ?_) | with_reducible refine K.tN ?_)
      refine AW.block ?_
      repeat' (first | ((with_reducible refine D.nil ?_); refine AX.nilD (by kernel_rfl) ?_) | ((with_reducible refine D.load ?_); first | refine L.ldb U U U U U U ?_ | refine L.lda U U U U U ?_) | ((with_reducible refine D.move ?_); refine L.mv U U U ?_) | ((with_reducible refine D.fieldAddr ?_); refine L.fab U U U U U ?_) | ((with_reducible refine D.assign ?_); refine L.asg U U U ?_) | ((with_reducible refine D.call ?_); first | refine L.apt U U U U U U (by first | exact trivial | exact ⟨rfl, trivial⟩) U U (by first | omega | (simp; omega)) ?_ | refine L.c2 (hcx) U U U U ?_) | ((with_reducible refine D.store ?_); refine L.st U U U U U U U U U ?_) | ((with_reducible refine D.indexAddr ?_); refine L.ixt _ U U U U U U U (by (simp; done)) ?_) | ((with_reducible refine D.ax ?_); refine L.bs1 U U U U U (EC.fold_of U) U U ?_) | ((with_reducible refine D.aw ?_); refine AW.regD mixed (by kernel_rfl) ?_) | with_reducible refine K.bN ?_)
      refine ⟨⟨m + 1, by omega⟩, by show qs.length - (m + 1) < qs.length - m; omega, ?_⟩
      simp only [et]
      exact (Weak.mk [some 0, some 1, some 3] _ _ _ U U U U (by (repeat' (first | exact trivial | refine And.intro ?_ ?_ | refine ⟨_, U, _, U, ?_⟩ | exact VLe.refl _)); done) (by (repeat' (first | exact trivial | exact Or.inr ⟨_, U, rfl⟩ | refine And.intro ?_ ?_ | refine ⟨_, U, _, U, _, U, ?_⟩ | exact VLe.refl _)); done))
  · obtain rfl : m = qs.length := by omega
    simp only [List.drop_length, List.take_length, show quFs [] (imFs ps c) = imFs ps c from rfl]
    repeat' (first | ((with_reducible refine D.nil ?_); refine AX.nilL ?_) | ((with_reducible refine D.load ?_); first | refine L.ldb U U U U U U ?_ | refine AX.sk U U ?_) | ((with_reducible refine D.move ?_); refine L.mv U U U ?_) | ((with_reducible refine D.fieldAddr ?_); first | refine L.fab U U U U U ?_ | refine AX.sk U U ?_ | ((fail_if_success refine AX.wt U ?_); refine AX.gs U U (fun _ => trivial) (fun h => ?_) (fun h => ?_))) | ((with_reducible refine D.assign ?_); refine L.asg U U U ?_) | ((with_reducible refine D.bin ?_); first | refine L.bn U U U U U ?_ | refine AX.sk U U ?_) | ((with_reducible refine D.pick ?_); refine L.pk U U U U ?_) | ((with_reducible refine D.aw ?_); first | refine K.sq (AW.regL ?_) | refine K.sq (K.sq ?_) | refine AW.regL ?_ | refine AW.condT U ?_ | refine AW.condS U (fun h => ?_) (fun h => ?_) | refine AW.skip ?_ | refine AW.exit ?_) | with_reducible refine K.tN ?_ | with_reducible refine K.tE ?_ | with_reducible refine K.bX (by with_unfolding_all rfl) ?_ | with_reducible refine K.lE ?_)
    all_goals first
      | (exfalso; simp at h; first | exact hb.1 h | exact hb.2 h)
      | skip
    refine K.sq (AW.block (AW.loop (ι := { m : Nat // m ≤ ps.length })
      (fun m => ([(1, .ptr 0 0), (4, .ptr 1 0), (5, .slice (.own 2) (.t .ty (qs.map (·.2)))), (6, .slice (.own 3) (.t .fm (ps.take m.1)))], ⟨4, [(0, .var (imFs (ps.drop m.1) c).view), (1, .var [.i 0, .i 0, .slice .nil (.t .ty []), .slice .nil (.t .tm []), .slice .nil (.t .fm [])]), (2, .row), (3, .row)]⟩))
      (fun m => ps.length - m.1) ⟨0, Nat.zero_le _⟩ (Weak.mk [some 0, some 1, some 2, none] _ _ _ U U U U (by (repeat' (first | exact trivial | refine And.intro ?_ ?_ | refine ⟨_, U, _, U, ?_⟩ | exact VLe.refl _)); done) (by (repeat' (first | exact trivial | exact Or.inl U | exact Or.inr ⟨_, U, rfl⟩ | refine And.intro ?_ ?_ | refine ⟨_, U, _, U, _, U, ?_⟩ | exact VLe.refl _)); done)) fun ⟨m, hm⟩ => ?_))
    by_cases hlt : m < ps.length
    · have e := imFs_drop (c := c) hlt
      have hx := imFs_mem (c := c) hlt
      have hcx := ownFm_c ps[m] (by omega)
      simp only [e]
      repeat' (first | ((with_reducible refine D.nil ?_); refine AX.nilL ?_) | ((with_reducible refine D.load ?_); refine L.ldb U U U U U U ?_) | ((with_reducible refine D.fieldAddr ?_); refine L.fab U U U U U ?_) | ((with_reducible refine D.bin ?_); refine L.bn U U U U U ?_) | ((with_reducible refine D.aw ?_); first | refine K.sq (K.sq ?_) | refine AW.regL ?_ | refine AW.condT U ?_ | refine AW.skip ?_) | with_reducible refine K.tN ?_)
      refine AW.block ?_
      repeat' (first | ((with_reducible refine D.nil ?_); refine AX.nilD (by kernel_rfl) ?_) | ((with_reducible refine D.load ?_); first | refine L.ldb U U U U U U ?_ | refine L.lda U U U U U ?_) | ((with_reducible refine D.move ?_); refine L.mv U U U ?_) | ((with_reducible refine D.fieldAddr ?_); refine L.fab U U U U U ?_) | ((with_reducible refine D.assign ?_); refine L.asg U U U ?_) | ((with_reducible refine D.call ?_); first | refine L.apt U U U U U U (by first | exact trivial | exact ⟨rfl, trivial⟩) U U (by first | omega | (simp; omega)) ?_ | refine L.c2 (hcx) U U U U ?_) | ((with_reducible refine D.store ?_); refine L.st U U U U U U U U U ?_) | ((with_reducible refine D.indexAddr ?_); refine L.ixt _ U U U U U U U (by (simp; done)) ?_) | ((with_reducible refine D.ax ?_); refine L.bs1 U U U U U (EC.fold_of U) U U ?_) | ((with_reducible refine D.aw ?_); refine AW.regD mixed (by kernel_rfl) ?_) | with_reducible refine K.bN ?_)
      refine ⟨⟨m + 1, by omega⟩, by show ps.length - (m + 1) < ps.length - m; omega, ?_⟩
      exact (Weak.mk [some 0, some 1, some 2, some 4] _ _ _ U U U U (by (repeat' (first | exact trivial | refine And.intro ?_ ?_ | refine ⟨_, U, _, U, ?_⟩ | exact VLe.refl _ | exact VLe.of_eq (by simp [Sto.upd, List.take_append_getElem]))); done) (by (repeat' (first | exact trivial | exact Or.inr ⟨_, U, rfl⟩ | refine And.intro ?_ ?_ | refine ⟨_, U, _, U, _, U, ?_⟩ | exact VLe.refl _)); done))
    · obtain rfl : m = ps.length := by omega
      simp only [List.drop_length, List.take_length, show imFs [] c = c from rfl]
      repeat' (first | ((with_reducible refine D.nil ?_); refine AX.nilL ?_) | ((with_reducible refine D.load ?_); refine L.ldb U U U U U U ?_) | ((with_reducible refine D.move ?_); refine L.mv U U U ?_) | ((with_reducible refine D.fieldAddr ?_); refine L.fab U U U U U ?_) | ((with_reducible refine D.assign ?_); refine L.asg U U U ?_) | ((with_reducible refine D.bin ?_); refine L.bn U U U U U ?_) | ((with_reducible refine D.call ?_); refine L.c2 (hco) U U U U ?_) | ((with_reducible refine D.store ?_); refine L.st U U U U U U U U U ?_) | ((with_reducible refine D.aw ?_); first | refine K.sq (AW.regL ?_) | refine K.sq (K.sq ?_) | refine AW.regL ?_ | refine AW.condS U (fun h => ?_) (fun h => ?_) | refine AW.skip ?_ | refine AW.ret ?_ | refine AW.exit ?_) | with_reducible refine K.tN ?_ | with_reducible refine K.tE ?_ | with_reducible refine K.bX (by with_unfolding_all rfl) ?_ | with_reducible refine K.lE ?_ | with_reducible refine K.r1 (by with_unfolding_all rfl) (by with_unfolding_all rfl) ?_)
      · exfalso; simp at h; exact h3 h
      · rfl
theorem Parts_c (qs : List (Int × Ty)) (ps : List Fm) (c : Fm) (hq : ∀ q ∈ qs, q.1 = 4 ∨ q.1 = 6) (hb : (imFs ps c).kind ≠ 4 ∧ (imFs ps c).kind ≠ 6) (h3 : c.kind ≠ 3) (hf : (quFs qs (imFs ps c)).full < 137438953472) (he : (quFs qs (imFs ps c)).err = 0) :
    PC E 21 [.agg (quFs qs (imFs ps c)).view] (.tup [.s .ty (qs.map (·.2)), .s .fm ps, .agg c.view, .i 0]) := by
  have h1 := fcheck_c (quFs qs (imFs ps c)) (by omega)
  rw [he] at h1
  have h2 := partsFm_c qs ps c hq hb h3 hf
  refine AC.mk Tryz.func21 rfl rfl rfl rfl rfl (Nat.le_of_ble_eq_true rfl) ?_
  repeat' (first | ((with_reducible refine D.nil ?_); first | refine AX.nilL ?_ | refine AX.nilD (by kernel_rfl) ?_) | ((with_reducible refine D.load ?_); refine L.ldb U U U U U U ?_) | ((with_reducible refine D.move ?_); refine L.mv U U U ?_) | ((with_reducible refine D.assign ?_); refine L.asg U U U ?_) | ((with_reducible refine D.bin ?_); refine L.bn U U U U U ?_) | ((with_reducible refine D.call ?_); first | refine L.c2 (h1) U U U U ?_ | refine L.c2 (h2) U U U U ?_) | ((with_reducible refine D.extract ?_); refine L.ex U U U U ?_) | ((with_reducible refine D.box ?_); refine L.bx U U U U ?_) | ((with_reducible refine D.alloc ?_); refine L.al U U U ?_) | ((with_reducible refine D.store ?_); refine L.st U U U U U U U U U ?_) | ((with_reducible refine D.aw ?_); first | refine K.sq (AW.regL ?_) | refine K.sq (AW.regD mixed (by kernel_rfl) ?_) | refine K.sq (K.sq ?_) | refine AW.regL ?_ | refine AW.condF U ?_ | refine AW.skip ?_ | refine AW.ret ?_) | with_reducible refine K.tN ?_ | with_reducible refine K.r1 (by with_unfolding_all rfl) (by with_unfolding_all rfl) ?_)
  rfl
end Go.Ab
namespace Go.Ab
open Go Go.Proofs
set_option maxRecDepth 100000
set_option maxHeartbeats 4000000
set_option linter.all false
def nearG (b : Bool) (l : List (Int × Int)) : Bool := b && l.all fun p => decide (p.1 ≤ 268435456)
theorem nearG_append (b : Bool) (l l' : List (Int × Int)) : nearG (nearG b l) l' = nearG b (l ++ l') := by simp [nearG, Bool.and_assoc]
theorem nearG_nil (b : Bool) : nearG b [] = b := by simp [nearG]
theorem nearECb (b : Bool) (i bl : Int) : AC E 103 [.i i, .i bl, .ptr 0 0] ⟨1, [(0, .var [.bool b])]⟩ (.tup []) ⟨1, [(0, .var [.bool (nearG b [(i, bl)])])]⟩ := by
  refine AC.mk Tryz.func103 rfl rfl rfl rfl rfl (Nat.le_of_ble_eq_true rfl) ?_
  repeat' (first | ((with_reducible refine D.nil ?_); refine AX.nilL ?_) | ((with_reducible refine D.load ?_); refine L.ldb U U U U U U ?_) | ((with_reducible refine D.move ?_); first | refine L.mv U U U ?_ | refine AX.sk U U ?_ | ((fail_if_success refine AX.wt U ?_); refine AX.gs U U (fun _ => trivial) (fun h => ?_) (fun h => ?_))) | ((with_reducible refine D.bin ?_); first | refine L.bn U U U U U ?_ | refine AX.sk U U ?_) | ((with_reducible refine D.store ?_); refine L.st U U U U U U U U U ?_) | ((with_reducible refine D.pick ?_); refine L.pk U U U U ?_) | ((with_reducible refine D.aw ?_); refine AW.regL ?_))
  · (exact K.n2 [some 0] U U U U U (by (repeat' (first | exact trivial | refine And.intro ?_ ?_ | refine ⟨_, U, _, U, _, U, ?_⟩ | exact VLe.of_eq (by simp [Sto.upd, nearG, h]))); done) U (by simp [tupV, V.wk, V.wks, constV, Ty.view, Tm.view, nearG, h]))
  · (exact K.n2 [some 0] U U U U U (by (repeat' (first | exact trivial | refine And.intro ?_ ?_ | refine ⟨_, U, _, U, _, U, ?_⟩ | exact VLe.of_eq (by simp [Sto.upd, nearG, h]))); done) U (by simp [tupV, V.wk, V.wks, constV, Ty.view, Tm.view, nearG, h]))
theorem nearEEach1 : ∀ (n : Nat) (t : Tm) (b : Bool) (bl : Int), t.full ≤ n → n < 1099511627776 → 0 ≤ bl → bl + n < 1099511627776 → AC E 143 [.agg t.view, .i bl, .ptr 0 0, .ptr 1 0] ⟨3, [(0, .var [.fn (.func 103) [] [.ptr 2 0]]), (1, .var [.fn (.func 143) [] [.ptr 0 0, .ptr 1 0]]), (2, .var [.bool b])]⟩ (.tup [])
    ⟨3, [(0, .var [.fn (.func 103) [] [.ptr 2 0]]), (1, .var [.fn (.func 143) [] [.ptr 0 0, .ptr 1 0]]), (2, .var [.bool (nearG b (t.vars bl))])]⟩ := by
  intro n
  induction n with
  | zero => intro t b bl h; have := t.full_pos; omega
  | succ n ih =>
  intro t b bl hsz hb hbl hbn
  have hsz' := Tm.full_eq t
  have hlen := lsum_len Tm.full Tm.full_pos t.args
  have hv := Tm.vars_eq bl t
  refine AC.mk Tryz.func143 rfl rfl rfl rfl rfl (Nat.le_of_ble_eq_true rfl) ?_
  repeat' (first | ((with_reducible refine D.nil ?_); refine AX.nilL ?_) | ((with_reducible refine D.load ?_); refine L.ldb U U U U U U ?_) | ((with_reducible refine D.move ?_); refine L.mv U U U ?_) | ((with_reducible refine D.fieldAddr ?_); refine L.fab U U U U U ?_) | ((with_reducible refine D.assign ?_); refine L.asg U U U ?_) | ((with_reducible refine D.bin ?_); first | refine L.ad U U U U (by omega) ?_ | refine L.bn U U U U U ?_) | ((with_reducible refine D.call ?_); first | refine L.lnt U U U U ?_ | (apply L.cv2 (nearECb _ _ _) [2] 0 rfl; rfl; rfl; rfl; rfl; rfl; rfl; rfl; (focus ((repeat' (first | exact trivial | refine And.intro ?_ ?_ | refine ⟨_, U, _, U, _, U, ?_⟩ | exact VLe.refl _)); done)); rfl; rfl; rfl; rfl)) | ((with_reducible refine D.box ?_); refine L.bx U U U U ?_) | ((with_reducible refine D.aw ?_); first | refine K.sq (AW.regL ?_) | refine K.sq (K.sq ?_) | refine AW.regL ?_ | refine AW.condS U (fun h => ?_) (fun h => ?_) | refine AW.skip ?_) | with_reducible refine K.tN ?_)
  all_goals
    have hup : up t.kind bl ≤ bl + 1 := by simp only [up]; split <;> omega
    have hup0 : 0 ≤ up t.kind bl := by simp only [up]; split <;> omega
    refine AW.range t.args.length (fun m => True)
      (fun m => ([(1, .i (up t.kind bl)), (3, .ptr 1 0), (22, .s .tm t.args), (23, .i t.args.length), (24, .i m)], ⟨4, [(0, .var [.fn (.func 103) [] [.ptr 2 0]]), (1, .var [.fn (.func 143) [] [.ptr 0 0, .ptr 1 0]]), (2, .var [.bool (nearG b ((if t.kind = 1 then [(t.index, bl)] else []) ++ (t.args.take m).flatMap (Tm.vars (up t.kind bl))))]), (3, .var t.view)]⟩))
      (by omega) (fun m => rfl) (fun m => rfl) rfl trivial ?_ ?_ ?_
    · simp_all only [beq_iff_eq, beq_eq_false_iff_ne, ne_eq]
      exact (Weak.mk [some 0, some 1, some 2, some 3] _ _ _ U U U U (by (repeat' (first | exact trivial | refine And.intro ?_ ?_ | refine ⟨_, U, _, U, ?_⟩ | exact VLe.refl _ | exact VLe.of_eq (by simp [Sto.upd, up, *, nearG_nil]))); done) (by (repeat' (first | exact trivial | refine And.intro ?_ ?_ | refine ⟨_, U, _, U, _, U, ?_⟩ | exact VLe.refl _ | exact VLe.of_eq (by simp [Sto.upd, up, *, nearG_nil]))); done))
    · intro m hm hP
      have hs2 := lsum_mem Tm.full (List.getElem_mem hm)
      have hc := ih t.args[m] (nearG b ((if t.kind = 1 then [(t.index, bl)] else []) ++ (t.args.take m).flatMap (Tm.vars (up t.kind bl)))) (up t.kind bl) (by omega) (by omega) hup0 (by omega)
      repeat' (first | ((with_reducible refine D.nil ?_); refine AX.nilL ?_) | ((with_reducible refine D.load ?_); first | refine L.ldb U U U U U U ?_ | refine L.lda U U U U U ?_) | ((with_reducible refine D.move ?_); refine L.mv U U U ?_) | ((with_reducible refine D.call ?_); (apply L.cv2 (hc) [0, 1, 2] 0 rfl; rfl; rfl; rfl; rfl; rfl; rfl; rfl; (focus ((repeat' (first | exact trivial | refine And.intro ?_ ?_ | refine ⟨_, U, _, U, _, U, ?_⟩ | exact VLe.refl _)); done)); rfl; rfl; rfl; rfl)) | ((with_reducible refine D.alloc ?_); refine L.al U U U ?_) | ((with_reducible refine D.store ?_); refine L.st U U U U U U U U U ?_) | ((with_reducible refine D.indexAddr ?_); refine L.ixt _ U U U U U U U (by assumption) ?_) | ((with_reducible refine D.aw ?_); first | refine K.sq (AW.regL ?_) | refine AW.regL ?_) | with_reducible refine K.tN ?_ | with_reducible refine K.bN ?_)
      refine ⟨rfl, trivial, ?_⟩
      exact (Weak.mk [some 0, some 1, some 2, some 3] _ _ _ U U U U (by (repeat' (first | exact trivial | refine And.intro ?_ ?_ | refine ⟨_, U, _, U, ?_⟩ | exact VLe.refl _)); done) (by (repeat' (first | exact trivial | refine And.intro ?_ ?_ | refine ⟨_, U, _, U, _, U, ?_⟩ | exact VLe.refl _ | exact VLe.of_eq (by simp [Sto.upd, nearG_append, flat_take _ _ _ hm]))); done))
    · intro hP
      skip
      (exact K.n2 [some 0, some 1, some 2] U U U U U (by (repeat' (first | exact trivial | refine And.intro ?_ ?_ | refine ⟨_, U, _, U, _, U, ?_⟩ | exact VLe.refl _ | exact VLe.of_eq (by simp [Sto.upd, hv]))); done) U (by simp [tupV, V.wk, V.wks, constV, Ty.view, Tm.view, hv]))
theorem nearEEach (t : Tm) (b : Bool) (ht : t.full < 1099511627776) : AC E 102 [.agg t.view, .fn (.func 103) [] [.ptr 0 0]] ⟨1, [(0, .var [.bool b])]⟩ (.tup []) ⟨1, [(0, .var [.bool (nearG b (t.vars 0))])]⟩ := by
  have hc := nearEEach1 _ t b 0 (Nat.le_refl _) (by omega) (by omega) (by omega)
  refine AC.mk Tryz.func102 rfl rfl rfl rfl rfl (Nat.le_of_ble_eq_true rfl) ?_
  repeat' (first | ((with_reducible refine D.nil ?_); refine AX.nilL ?_) | ((with_reducible refine D.load ?_); refine L.ldb U U U U U U ?_) | ((with_reducible refine D.call ?_); (apply L.cv2 (hc) [2, 3, 0] 0 rfl; rfl; rfl; rfl; rfl; rfl; rfl; rfl; (focus ((repeat' (first | exact trivial | refine And.intro ?_ ?_ | refine ⟨_, U, _, U, _, U, ?_⟩ | exact VLe.refl _)); done)); rfl; rfl; rfl; rfl)) | ((with_reducible refine D.box ?_); refine L.bx U U U U ?_) | ((with_reducible refine D.alloc ?_); refine L.al U U U ?_) | ((with_reducible refine D.store ?_); refine L.st U U U U U U U U U ?_) | ((with_reducible refine D.ax ?_); refine L.mf U U U U ?_) | ((with_reducible refine D.aw ?_); first | refine K.sq (AW.regL ?_) | refine AW.regL ?_) | with_reducible refine K.tN ?_)
  (exact K.n2 [some 0] U U U U U (by (repeat' (first | exact trivial | refine And.intro ?_ ?_ | refine ⟨_, U, _, U, _, U, ?_⟩ | exact VLe.refl _)); done) U (by simp [tupV, V.wk, V.wks, constV, Ty.view, Tm.view, nearG]))
theorem nearEFm (b : Bool) (t : Tm) (bl : Int) (ht : t.full < 1099511627776) : AC E 101 [.agg t.view, .i bl, .ptr 0 0] ⟨1, [(0, .var [.bool b])]⟩ (.tup []) ⟨1, [(0, .var [.bool (allP Tm.nearE b [(t, bl)])])]⟩ := by
  have hc := nearEEach t b ht
  refine AC.mk Tryz.func101 rfl rfl rfl rfl rfl (Nat.le_of_ble_eq_true rfl) ?_
  repeat' (first | ((with_reducible refine D.nil ?_); refine AX.nilL ?_) | ((with_reducible refine D.load ?_); refine L.ldb U U U U U U ?_) | ((with_reducible refine D.call ?_); (apply L.cv2 (hc) [0] 0 rfl; rfl; rfl; rfl; rfl; rfl; rfl; rfl; (focus ((repeat' (first | exact trivial | refine And.intro ?_ ?_ | refine ⟨_, U, _, U, _, U, ?_⟩ | exact VLe.refl _)); done)); rfl; rfl; rfl; rfl)) | ((with_reducible refine D.box ?_); refine L.bx U U U U ?_) | ((with_reducible refine D.ax ?_); refine L.mf U U U U ?_) | ((with_reducible refine D.aw ?_); first | refine K.sq (AW.regL ?_) | refine AW.regL ?_) | with_reducible refine K.tN ?_)
  (exact K.n2 [some 0] U U U U U (by (repeat' (first | exact trivial | refine And.intro ?_ ?_ | refine ⟨_, U, _, U, _, U, ?_⟩ | exact VLe.of_eq (by simp [Sto.upd, allP_one, nearG, Tm.nearE]))); done) U (by simp [tupV, V.wk, V.wks, constV, Ty.view, Tm.view, allP_one, nearG, Tm.nearE]))
theorem nearFFm (b : Bool) (t : Tm) (bl : Int) (ht : t.full < 1099511627776) : AC E 138 [.agg t.view, .i bl, .ptr 0 0] ⟨1, [(0, .var [.bool b])]⟩ (.tup []) ⟨1, [(0, .var [.bool (allP Tm.near b [(t, bl)])])]⟩ := by
  have hc := near_c t ht
  refine AC.mk Tryz.func138 rfl rfl rfl rfl rfl (Nat.le_of_ble_eq_true rfl) ?_
  repeat' (first | ((with_reducible refine D.nil ?_); refine AX.nilL ?_) | ((with_reducible refine D.load ?_); first | refine L.ldb U U U U U U ?_ | refine AX.sk U U ?_ | ((fail_if_success refine AX.wt U ?_); refine AX.gs U U (fun _ => trivial) (fun h => ?_) (fun h => ?_))) | ((with_reducible refine D.move ?_); refine L.mv U U U ?_) | ((with_reducible refine D.call ?_); first | refine L.c2 (hc) U U U U ?_ | refine AX.sk U U ?_) | ((with_reducible refine D.box ?_); refine L.bx U U U U ?_) | ((with_reducible refine D.store ?_); refine L.st U U U U U U U U U ?_) | ((with_reducible refine D.pick ?_); refine L.pk U U U U ?_) | ((with_reducible refine D.aw ?_); first | refine K.sq (AW.regL ?_) | refine AW.regL ?_) | with_reducible refine K.tN ?_)
  · (exact K.n2 [some 0] U U U U U (by (repeat' (first | exact trivial | refine And.intro ?_ ?_ | refine ⟨_, U, _, U, _, U, ?_⟩ | exact VLe.of_eq (by simp [Sto.upd, allP_one, h]))); done) U (by simp [tupV, V.wk, V.wks, constV, Ty.view, Tm.view, allP_one, h]))
  · (exact K.n2 [some 0] U U U U U (by (repeat' (first | exact trivial | refine And.intro ?_ ?_ | refine ⟨_, U, _, U, _, U, ?_⟩ | exact VLe.of_eq (by simp [Sto.upd, allP_one, h]))); done) U (by simp [tupV, V.wk, V.wks, constV, Ty.view, Tm.view, allP_one, h]))
theorem countFFm (at_ c : Int) (t : Tm) (bl : Int) (ht : t.full < 549755813888) (hc0 : 0 ≤ c ∧ c < 549755813888) (ha : 0 ≤ at_ ∧ at_ < 549755813888) (hb : 0 ≤ bl ∧ bl < 549755813888) (hix : ∀ p ∈ t.vars 0, 0 ≤ p.1 ∧ p.1 < 1099511627776) :
    AC E 139 [.agg t.view, .i bl, .ptr 0 0, .ptr 1 0] ⟨2, [(0, .var [.i c]), (1, .var [.i at_])]⟩ (.tup []) ⟨2, [(0, .var [.i (c + cntF at_ [(t, bl)])]), (1, .var [.i at_])]⟩ := by
  have hc := count_c t (at_ + bl) ht hix
  have h1 := cnt_le (at_ + bl) (t.vars 0)
  have h2 := t.vars_len 0
  have h3 := t.size_le_full
  refine AC.mk Tryz.func139 rfl rfl rfl rfl rfl (Nat.le_of_ble_eq_true rfl) ?_
  repeat' (first | ((with_reducible refine D.nil ?_); first | refine AX.nilL ?_ | refine AX.nilD (by kernel_rfl) ?_) | ((with_reducible refine D.load ?_); refine L.ldb U U U U U U ?_) | ((with_reducible refine D.move ?_); refine L.mv U U U ?_) | ((with_reducible refine D.bin ?_); refine L.ad U U U U (by omega) ?_) | ((with_reducible refine D.call ?_); refine L.c2 (hc) U U U U ?_) | ((with_reducible refine D.box ?_); refine L.bx U U U U ?_) | ((with_reducible refine D.store ?_); refine L.st U U U U U U U U U ?_) | ((with_reducible refine D.aw ?_); first | refine K.sq (AW.regL ?_) | refine AW.regD mixed (by kernel_rfl) ?_) | with_reducible refine K.tN ?_)
  (exact K.n2 [some 0, some 1] U U U U U (by (repeat' (first | exact trivial | refine And.intro ?_ ?_ | refine ⟨_, U, _, U, _, U, ?_⟩ | exact VLe.refl _)); done) U (by simp [tupV, V.wk, V.wks, constV, Ty.view, Tm.view, cntF]))
theorem nearEEachF : ∀ (n : Nat) (f : Fm) (b : Bool) (bl : Int), f.full ≤ n → n < 549755813888 → 0 ≤ bl → bl + n < 549755813888 → AC E 100 [.agg f.view, .i bl, .fn (.func 101) [] [.ptr 0 0]] ⟨1, [(0, .var [.bool b])]⟩ (.tup []) ⟨1, [(0, .var [.bool (allP Tm.nearE b (f.tms bl))])]⟩ := by
  intro n
  induction n with
  | zero => intro f; intros; have := f.full_pos; omega
  | succ n ih =>
  intro f b bl hsz hn hbl hbn
  have hsz' := f.full_eq
  have hlen := lsum_len Fm.full Fm.full_pos f.args
  have hlen2 := lsum_len Tm.full Tm.full_pos f.terms
  have htm := f.tms_eq bl
  have hq := quantifier_c f.kind
  refine AC.mk Tryz.func100 rfl rfl rfl rfl rfl (Nat.le_of_ble_eq_true rfl) ?_
  repeat' (first | ((with_reducible refine D.nil ?_); refine AX.nilL ?_) | ((with_reducible refine D.load ?_); refine L.ldb U U U U U U ?_) | ((with_reducible refine D.move ?_); refine L.mv U U U ?_) | ((with_reducible refine D.fieldAddr ?_); refine L.fab U U U U U ?_) | ((with_reducible refine D.call ?_); refine L.lnt U U U U ?_) | ((with_reducible refine D.box ?_); refine L.bx U U U U ?_) | ((with_reducible refine D.aw ?_); first | refine K.sq (AW.regL ?_) | refine K.sq (K.sq ?_) | refine AW.regL ?_) | with_reducible refine K.tN ?_)
  refine AW.range f.terms.length (fun m => True)
    (fun m => ([(1, .i bl), (2, .fn (.func 101) [] [.ptr 0 0]), (3, .ptr 1 0), (11, .s .tm f.terms), (12, .i f.terms.length), (13, .i m)], ⟨2, [(0, .var [.bool (allP Tm.nearE b ((f.terms.take m).map (fun t => (t, bl))))]), (1, .var f.view)]⟩))
    (by omega) (fun m => rfl) (fun m => rfl) rfl trivial ?_ ?_ ?_
  · exact (Weak.mk [some 0, some 1] _ _ _ U U U U (by (repeat' (first | exact trivial | refine And.intro ?_ ?_ | refine ⟨_, U, _, U, ?_⟩ | exact VLe.refl _)); done) (by (repeat' (first | exact trivial | refine And.intro ?_ ?_ | refine ⟨_, U, _, U, _, U, ?_⟩ | exact VLe.refl _ | exact VLe.of_eq (by simp [Sto.upd, allP_nil]))); done))
  · intro m hm _
    have hs2 := lsum_mem Tm.full (List.getElem_mem hm)
    have hc := nearEFm (allP Tm.nearE b ((f.terms.take m).map (fun t => (t, bl)))) f.terms[m] bl (by omega)
    repeat' (first | ((with_reducible refine D.nil ?_); refine AX.nilL ?_) | ((with_reducible refine D.load ?_); first | refine L.ldb U U U U U U ?_ | refine L.lda U U U U U ?_) | ((with_reducible refine D.move ?_); refine L.mv U U U ?_) | ((with_reducible refine D.call ?_); (apply L.cv2 (hc) [0] 0 rfl; rfl; rfl; rfl; rfl; rfl; rfl; rfl; (focus ((repeat' (first | exact trivial | refine And.intro ?_ ?_ | refine ⟨_, U, _, U, _, U, ?_⟩ | exact VLe.refl _)); done)); rfl; rfl; rfl; rfl)) | ((with_reducible refine D.alloc ?_); refine L.al U U U ?_) | ((with_reducible refine D.store ?_); refine L.st U U U U U U U U U ?_) | ((with_reducible refine D.indexAddr ?_); refine L.ixt _ U U U U U U U (by assumption) ?_) | ((with_reducible refine D.aw ?_); first | refine K.sq (AW.regL ?_) | refine AW.regL ?_) | with_reducible refine K.tN ?_ | with_reducible refine K.bN ?_)
    refine ⟨rfl, trivial, ?_⟩
    exact (Weak.mk [some 0, some 1] _ _ _ U U U U (by (repeat' (first | exact trivial | refine And.intro ?_ ?_ | refine ⟨_, U, _, U, ?_⟩ | exact VLe.refl _)); done) (by (repeat' (first | exact trivial | refine And.intro ?_ ?_ | refine ⟨_, U, _, U, _, U, ?_⟩ | exact VLe.refl _ | exact VLe.of_eq (by simp [Sto.upd, allP_append, map_take _ _ _ hm]))); done))
  · intro _
    simp only [List.take_length]
    repeat' (first | ((with_reducible refine D.nil ?_); refine AX.nilL ?_) | ((with_reducible refine D.load ?_); refine L.ldb U U U U U U ?_) | ((with_reducible refine D.move ?_); refine L.mv U U U ?_) | ((with_reducible refine D.fieldAddr ?_); refine L.fab U U U U U ?_) | ((with_reducible refine D.assign ?_); refine L.asg U U U ?_) | ((with_reducible refine D.bin ?_); refine L.ad U U U U (by omega) ?_) | ((with_reducible refine D.call ?_); first | refine L.lnt U U U U ?_ | refine L.c2 (hq) U U U U ?_) | ((with_reducible refine D.aw ?_); first | refine K.sq (AW.regL ?_) | refine K.sq (K.sq ?_) | refine AW.regL ?_ | refine AW.condS U (fun h => ?_) (fun h => ?_) | refine AW.skip ?_) | with_reducible refine K.tN ?_)
    all_goals
      have hup : upF f.kind bl ≤ bl + 1 := by simp only [upF]; split <;> omega
      have hup0 : 0 ≤ upF f.kind bl := by simp only [upF]; split <;> omega
      refine AW.range f.args.length (fun m => True)
        (fun m => ([(1, .i (upF f.kind bl)), (2, .fn (.func 101) [] [.ptr 0 0]), (3, .ptr 1 0), (28, .s .fm f.args), (29, .i f.args.length), (30, .i m)], ⟨2, [(0, .var [.bool (allP Tm.nearE b (f.terms.map (fun t => (t, bl)) ++ (f.args.take m).flatMap (Fm.tms (upF f.kind bl))))]), (1, .var f.view)]⟩))
        (by omega) (fun m => rfl) (fun m => rfl) rfl trivial ?_ ?_ ?_
      · exact (Weak.mk [some 0, some 1] _ _ _ U U U U (by (repeat' (first | exact trivial | refine And.intro ?_ ?_ | refine ⟨_, U, _, U, ?_⟩ | exact VLe.refl _ | exact VLe.of_eq (by simp [Sto.upd, upF, h, allP_nil]))); done) (by (repeat' (first | exact trivial | refine And.intro ?_ ?_ | refine ⟨_, U, _, U, _, U, ?_⟩ | exact VLe.refl _ | exact VLe.of_eq (by simp [Sto.upd, upF, h, allP_nil]))); done))
      · intro m hm _
        have hs2 := lsum_mem Fm.full (List.getElem_mem hm)
        have hc := ih f.args[m] (allP Tm.nearE b (f.terms.map (fun t => (t, bl)) ++ (f.args.take m).flatMap (Fm.tms (upF f.kind bl)))) (upF f.kind bl) (by omega) (by omega) hup0 (by omega)
        repeat' (first | ((with_reducible refine D.nil ?_); refine AX.nilL ?_) | ((with_reducible refine D.load ?_); first | refine L.ldb U U U U U U ?_ | refine L.lda U U U U U ?_) | ((with_reducible refine D.move ?_); refine L.mv U U U ?_) | ((with_reducible refine D.call ?_); (apply L.cv2 (hc) [0] 0 rfl; rfl; rfl; rfl; rfl; rfl; rfl; rfl; (focus ((repeat' (first | exact trivial | refine And.intro ?_ ?_ | refine ⟨_, U, _, U, _, U, ?_⟩ | exact VLe.refl _)); done)); rfl; rfl; rfl; rfl)) | ((with_reducible refine D.alloc ?_); refine L.al U U U ?_) | ((with_reducible refine D.store ?_); refine L.st U U U U U U U U U ?_) | ((with_reducible refine D.indexAddr ?_); refine L.ixt _ U U U U U U U (by assumption) ?_) | ((with_reducible refine D.aw ?_); first | refine K.sq (AW.regL ?_) | refine AW.regL ?_) | with_reducible refine K.tN ?_ | with_reducible refine K.bN ?_)
        refine ⟨rfl, trivial, ?_⟩
        exact (Weak.mk [some 0, some 1] _ _ _ U U U U (by (repeat' (first | exact trivial | refine And.intro ?_ ?_ | refine ⟨_, U, _, U, ?_⟩ | exact VLe.refl _)); done) (by (repeat' (first | exact trivial | refine And.intro ?_ ?_ | refine ⟨_, U, _, U, _, U, ?_⟩ | exact VLe.refl _ | exact VLe.of_eq (by simp [Sto.upd, allP_append, flat_take _ _ _ hm]))); done))
      · intro _
        skip
        (exact K.n2 [some 0] U U U U U (by (repeat' (first | exact trivial | refine And.intro ?_ ?_ | refine ⟨_, U, _, U, _, U, ?_⟩ | exact VLe.of_eq (by simp [Sto.upd, htm]))); done) U (by simp [tupV, V.wk, V.wks, constV, Ty.view, Tm.view, htm]))
theorem nearFEachF : ∀ (n : Nat) (f : Fm) (b : Bool) (bl : Int), f.full ≤ n → n < 549755813888 → 0 ≤ bl → bl + n < 549755813888 → AC E 100 [.agg f.view, .i bl, .fn (.func 138) [] [.ptr 0 0]] ⟨1, [(0, .var [.bool b])]⟩ (.tup []) ⟨1, [(0, .var [.bool (allP Tm.near b (f.tms bl))])]⟩ := by
  intro n
  induction n with
  | zero => intro f; intros; have := f.full_pos; omega
  | succ n ih =>
  intro f b bl hsz hn hbl hbn
  have hsz' := f.full_eq
  have hlen := lsum_len Fm.full Fm.full_pos f.args
  have hlen2 := lsum_len Tm.full Tm.full_pos f.terms
  have htm := f.tms_eq bl
  have hq := quantifier_c f.kind
  refine AC.mk Tryz.func100 rfl rfl rfl rfl rfl (Nat.le_of_ble_eq_true rfl) ?_
  repeat' (first | ((with_reducible refine D.nil ?_); refine AX.nilL ?_) | ((with_reducible refine D.load ?_); refine L.ldb U U U U U U ?_) | ((with_reducible refine D.move ?_); refine L.mv U U U ?_) | ((with_reducible refine D.fieldAddr ?_); refine L.fab U U U U U ?_) | ((with_reducible refine D.call ?_); refine L.lnt U U U U ?_) | ((with_reducible refine D.box ?_); refine L.bx U U U U ?_) | ((with_reducible refine D.aw ?_); first | refine K.sq (AW.regL ?_) | refine K.sq (K.sq ?_) | refine AW.regL ?_) | with_reducible refine K.tN ?_)
  refine AW.range f.terms.length (fun m => True)
    (fun m => ([(1, .i bl), (2, .fn (.func 138) [] [.ptr 0 0]), (3, .ptr 1 0), (11, .s .tm f.terms), (12, .i f.terms.length), (13, .i m)], ⟨2, [(0, .var [.bool (allP Tm.near b ((f.terms.take m).map (fun t => (t, bl))))]), (1, .var f.view)]⟩))
    (by omega) (fun m => rfl) (fun m => rfl) rfl trivial ?_ ?_ ?_
  · exact (Weak.mk [some 0, some 1] _ _ _ U U U U (by (repeat' (first | exact trivial | refine And.intro ?_ ?_ | refine ⟨_, U, _, U, ?_⟩ | exact VLe.refl _)); done) (by (repeat' (first | exact trivial | refine And.intro ?_ ?_ | refine ⟨_, U, _, U, _, U, ?_⟩ | exact VLe.refl _ | exact VLe.of_eq (by simp [Sto.upd, allP_nil]))); done))
  · intro m hm _
    have hs2 := lsum_mem Tm.full (List.getElem_mem hm)
    have hc := nearFFm (allP Tm.near b ((f.terms.take m).map (fun t => (t, bl)))) f.terms[m] bl (by omega)
    repeat' (first | ((with_reducible refine D.nil ?_); refine AX.nilL ?_) | ((with_reducible refine D.load ?_); first | refine L.ldb U U U U U U ?_ | refine L.lda U U U U U ?_) | ((with_reducible refine D.move ?_); refine L.mv U U U ?_) | ((with_reducible refine D.call ?_); (apply L.cv2 (hc) [0] 0 rfl; rfl; rfl; rfl; rfl; rfl; rfl; rfl; (focus ((repeat' (first | exact trivial | refine And.intro ?_ ?_ | refine ⟨_, U, _, U, _, U, ?_⟩ | exact VLe.refl _)); done)); rfl; rfl; rfl; rfl)) | ((with_reducible refine D.alloc ?_); refine L.al U U U ?_) | ((with_reducible refine D.store ?_); refine L.st U U U U U U U U U ?_) | ((with_reducible refine D.indexAddr ?_); refine L.ixt _ U U U U U U U (by assumption) ?_) | ((with_reducible refine D.aw ?_); first | refine K.sq (AW.regL ?_) | refine AW.regL ?_) | with_reducible refine K.tN ?_ | with_reducible refine K.bN ?_)
    refine ⟨rfl, trivial, ?_⟩
    exact (Weak.mk [some 0, some 1] _ _ _ U U U U (by (repeat' (first | exact trivial | refine And.intro ?_ ?_ | refine ⟨_, U, _, U, ?_⟩ | exact VLe.refl _)); done) (by (repeat' (first | exact trivial | refine And.intro ?_ ?_ | refine ⟨_, U, _, U, _, U, ?_⟩ | exact VLe.refl _ | exact VLe.of_eq (by simp [Sto.upd, allP_append, map_take _ _ _ hm]))); done))
  · intro _
    simp only [List.take_length]
    repeat' (first | ((with_reducible refine D.nil ?_); refine AX.nilL ?_) | ((with_reducible refine D.load ?_); refine L.ldb U U U U U U ?_) | ((with_reducible refine D.move ?_); refine L.mv U U U ?_) | ((with_reducible refine D.fieldAddr ?_); refine L.fab U U U U U ?_) | ((with_reducible refine D.assign ?_); refine L.asg U U U ?_) | ((with_reducible refine D.bin ?_); refine L.ad U U U U (by omega) ?_) | ((with_reducible refine D.call ?_); first | refine L.lnt U U U U ?_ | refine L.c2 (hq) U U U U ?_) | ((with_reducible refine D.aw ?_); first | refine K.sq (AW.regL ?_) | refine K.sq (K.sq ?_) | refine AW.regL ?_ | refine AW.condS U (fun h => ?_) (fun h => ?_) | refine AW.skip ?_) | with_reducible refine K.tN ?_)
    all_goals
      have hup : upF f.kind bl ≤ bl + 1 := by simp only [upF]; split <;> omega
      have hup0 : 0 ≤ upF f.kind bl := by simp only [upF]; split <;> omega
      refine AW.range f.args.length (fun m => True)
        (fun m => ([(1, .i (upF f.kind bl)), (2, .fn (.func 138) [] [.ptr 0 0]), (3, .ptr 1 0), (28, .s .fm f.args), (29, .i f.args.length), (30, .i m)], ⟨2, [(0, .var [.bool (allP Tm.near b (f.terms.map (fun t => (t, bl)) ++ (f.args.take m).flatMap (Fm.tms (upF f.kind bl))))]), (1, .var f.view)]⟩))
        (by omega) (fun m => rfl) (fun m => rfl) rfl trivial ?_ ?_ ?_
      · exact (Weak.mk [some 0, some 1] _ _ _ U U U U (by (repeat' (first | exact trivial | refine And.intro ?_ ?_ | refine ⟨_, U, _, U, ?_⟩ | exact VLe.refl _ | exact VLe.of_eq (by simp [Sto.upd, upF, h, allP_nil]))); done) (by (repeat' (first | exact trivial | refine And.intro ?_ ?_ | refine ⟨_, U, _, U, _, U, ?_⟩ | exact VLe.refl _ | exact VLe.of_eq (by simp [Sto.upd, upF, h, allP_nil]))); done))
      · intro m hm _
        have hs2 := lsum_mem Fm.full (List.getElem_mem hm)
        have hc := ih f.args[m] (allP Tm.near b (f.terms.map (fun t => (t, bl)) ++ (f.args.take m).flatMap (Fm.tms (upF f.kind bl)))) (upF f.kind bl) (by omega) (by omega) hup0 (by omega)
        repeat' (first | ((with_reducible refine D.nil ?_); refine AX.nilL ?_) | ((with_reducible refine D.load ?_); first | refine L.ldb U U U U U U ?_ | refine L.lda U U U U U ?_) | ((with_reducible refine D.move ?_); refine L.mv U U U ?_) | ((with_reducible refine D.call ?_); (apply L.cv2 (hc) [0] 0 rfl; rfl; rfl; rfl; rfl; rfl; rfl; rfl; (focus ((repeat' (first | exact trivial | refine And.intro ?_ ?_ | refine ⟨_, U, _, U, _, U, ?_⟩ | exact VLe.refl _)); done)); rfl; rfl; rfl; rfl)) | ((with_reducible refine D.alloc ?_); refine L.al U U U ?_) | ((with_reducible refine D.store ?_); refine L.st U U U U U U U U U ?_) | ((with_reducible refine D.indexAddr ?_); refine L.ixt _ U U U U U U U (by assumption) ?_) | ((with_reducible refine D.aw ?_); first | refine K.sq (AW.regL ?_) | refine AW.regL ?_) | with_reducible refine K.tN ?_ | with_reducible refine K.bN ?_)
        refine ⟨rfl, trivial, ?_⟩
        exact (Weak.mk [some 0, some 1] _ _ _ U U U U (by (repeat' (first | exact trivial | refine And.intro ?_ ?_ | refine ⟨_, U, _, U, ?_⟩ | exact VLe.refl _)); done) (by (repeat' (first | exact trivial | refine And.intro ?_ ?_ | refine ⟨_, U, _, U, _, U, ?_⟩ | exact VLe.refl _ | exact VLe.of_eq (by simp [Sto.upd, allP_append, flat_take _ _ _ hm]))); done))
      · intro _
        skip
        (exact K.n2 [some 0] U U U U U (by (repeat' (first | exact trivial | refine And.intro ?_ ?_ | refine ⟨_, U, _, U, _, U, ?_⟩ | exact VLe.of_eq (by simp [Sto.upd, htm]))); done) U (by simp [tupV, V.wk, V.wks, constV, Ty.view, Tm.view, htm]))
theorem countFEachF (at_ C : Int) (ha : 0 ≤ at_ ∧ at_ < 549755813888) (hC : C < 549755813888) : ∀ (n : Nat) (f : Fm) (c : Int) (bl : Int), f.full ≤ n → n < 549755813888 → 0 ≤ bl → bl + n < 549755813888 → 0 ≤ c → c + f.size ≤ C → (∀ p ∈ f.tms bl, ∀ q ∈ p.1.vars 0, 0 ≤ q.1 ∧ q.1 < 1099511627776) → AC E 100 [.agg f.view, .i bl, .fn (.func 139) [] [.ptr 0 0, .ptr 1 0]] ⟨2, [(0, .var [.i c]), (1, .var [.i at_])]⟩ (.tup []) ⟨2, [(0, .var [.i (c + cntF at_ (f.tms bl))]), (1, .var [.i at_])]⟩ := by
  intro n
  induction n with
  | zero => intro f; intros; have := f.full_pos; omega
  | succ n ih =>
  intro f c bl hsz hn hbl hbn hc0 hcC hix
  have hsz' := f.full_eq
  have hlen := lsum_len Fm.full Fm.full_pos f.args
  have hlen2 := lsum_len Tm.full Tm.full_pos f.terms
  have htm := f.tms_eq bl
  have hq := quantifier_c f.kind
  refine AC.mk Tryz.func100 rfl rfl rfl rfl rfl (Nat.le_of_ble_eq_true rfl) ?_
  repeat' (first | ((with_reducible refine D.nil ?_); refine AX.nilL ?_) | ((with_reducible refine D.load ?_); refine L.ldb U U U U U U ?_) | ((with_reducible refine D.move ?_); refine L.mv U U U ?_) | ((with_reducible refine D.fieldAddr ?_); refine L.fab U U U U U ?_) | ((with_reducible refine D.call ?_); refine L.lnt U U U U ?_) | ((with_reducible refine D.box ?_); refine L.bx U U U U ?_) | ((with_reducible refine D.aw ?_); first | refine K.sq (AW.regL ?_) | refine K.sq (K.sq ?_) | refine AW.regL ?_) | with_reducible refine K.tN ?_)
  refine AW.range f.terms.length (fun m => True)
    (fun m => ([(1, .i bl), (2, .fn (.func 139) [] [.ptr 0 0, .ptr 1 0]), (3, .ptr 2 0), (11, .s .tm f.terms), (12, .i f.terms.length), (13, .i m)], ⟨3, [(0, .var [.i (c + cntF at_ ((f.terms.take m).map (fun t => (t, bl))))]), (1, .var [.i at_]), (2, .var f.view)]⟩))
    (by omega) (fun m => rfl) (fun m => rfl) rfl trivial ?_ ?_ ?_
  · exact (Weak.mk [some 0, some 1, some 2] _ _ _ U U U U (by (repeat' (first | exact trivial | refine And.intro ?_ ?_ | refine ⟨_, U, _, U, ?_⟩ | exact VLe.refl _)); done) (by (repeat' (first | exact trivial | refine And.intro ?_ ?_ | refine ⟨_, U, _, U, _, U, ?_⟩ | exact VLe.refl _ | exact VLe.of_eq (by simp [Sto.upd, cntF]))); done))
  · intro m hm _
    have hs2 := lsum_mem Tm.full (List.getElem_mem hm)
    have hle1 := cntF_le at_ ((f.terms.take m).map (fun t => (t, bl)))
    have hle2 : (((f.terms.take m).map (fun t => (t, bl))).map fun p : Tm × Int => p.1.size).sum ≤ f.size := tms_le1 f bl m
    have hc := countFFm at_ (c + cntF at_ ((f.terms.take m).map (fun t => (t, bl)))) f.terms[m] bl (by omega) (by omega) ha (by omega) (fun p hp => hix _ (by rw [htm]; exact List.mem_append_left _ (List.mem_map.2 ⟨_, List.getElem_mem hm, rfl⟩)) p hp)
    repeat' (first | ((with_reducible refine D.nil ?_); refine AX.nilL ?_) | ((with_reducible refine D.load ?_); first | refine L.ldb U U U U U U ?_ | refine L.lda U U U U U ?_) | ((with_reducible refine D.move ?_); refine L.mv U U U ?_) | ((with_reducible refine D.call ?_); (apply L.cv2 (hc) [0, 1] 0 rfl; rfl; rfl; rfl; rfl; rfl; rfl; rfl; (focus ((repeat' (first | exact trivial | refine And.intro ?_ ?_ | refine ⟨_, U, _, U, _, U, ?_⟩ | exact VLe.refl _)); done)); rfl; rfl; rfl; rfl)) | ((with_reducible refine D.alloc ?_); refine L.al U U U ?_) | ((with_reducible refine D.store ?_); refine L.st U U U U U U U U U ?_) | ((with_reducible refine D.indexAddr ?_); refine L.ixt _ U U U U U U U (by assumption) ?_) | ((with_reducible refine D.aw ?_); first | refine K.sq (AW.regL ?_) | refine AW.regL ?_) | with_reducible refine K.tN ?_ | with_reducible refine K.bN ?_)
    refine ⟨rfl, trivial, ?_⟩
    exact (Weak.mk [some 0, some 1, some 2] _ _ _ U U U U (by (repeat' (first | exact trivial | refine And.intro ?_ ?_ | refine ⟨_, U, _, U, ?_⟩ | exact VLe.refl _)); done) (by (repeat' (first | exact trivial | refine And.intro ?_ ?_ | refine ⟨_, U, _, U, _, U, ?_⟩ | exact VLe.refl _ | exact VLe.of_eq (by simp [Sto.upd, cntF_append, Int.natCast_add, Int.add_assoc, map_take _ _ _ hm]))); done))
  · intro _
    simp only [List.take_length]
    repeat' (first | ((with_reducible refine D.nil ?_); refine AX.nilL ?_) | ((with_reducible refine D.load ?_); refine L.ldb U U U U U U ?_) | ((with_reducible refine D.move ?_); refine L.mv U U U ?_) | ((with_reducible refine D.fieldAddr ?_); refine L.fab U U U U U ?_) | ((with_reducible refine D.assign ?_); refine L.asg U U U ?_) | ((with_reducible refine D.bin ?_); refine L.ad U U U U (by omega) ?_) | ((with_reducible refine D.call ?_); first | refine L.lnt U U U U ?_ | refine L.c2 (hq) U U U U ?_) | ((with_reducible refine D.aw ?_); first | refine K.sq (AW.regL ?_) | refine K.sq (K.sq ?_) | refine AW.regL ?_ | refine AW.condS U (fun h => ?_) (fun h => ?_) | refine AW.skip ?_) | with_reducible refine K.tN ?_)
    all_goals
      have hup : upF f.kind bl ≤ bl + 1 := by simp only [upF]; split <;> omega
      have hup0 : 0 ≤ upF f.kind bl := by simp only [upF]; split <;> omega
      refine AW.range f.args.length (fun m => True)
        (fun m => ([(1, .i (upF f.kind bl)), (2, .fn (.func 139) [] [.ptr 0 0, .ptr 1 0]), (3, .ptr 2 0), (28, .s .fm f.args), (29, .i f.args.length), (30, .i m)], ⟨3, [(0, .var [.i (c + cntF at_ (f.terms.map (fun t => (t, bl)) ++ (f.args.take m).flatMap (Fm.tms (upF f.kind bl))))]), (1, .var [.i at_]), (2, .var f.view)]⟩))
        (by omega) (fun m => rfl) (fun m => rfl) rfl trivial ?_ ?_ ?_
      · exact (Weak.mk [some 0, some 1, some 2] _ _ _ U U U U (by (repeat' (first | exact trivial | refine And.intro ?_ ?_ | refine ⟨_, U, _, U, ?_⟩ | exact VLe.refl _ | exact VLe.of_eq (by simp [Sto.upd, upF, h, cntF]))); done) (by (repeat' (first | exact trivial | refine And.intro ?_ ?_ | refine ⟨_, U, _, U, _, U, ?_⟩ | exact VLe.refl _ | exact VLe.of_eq (by simp [Sto.upd, upF, h, cntF]))); done))
      · intro m hm _
        have hs2 := lsum_mem Fm.full (List.getElem_mem hm)
        have hle1 := cntF_le at_ (f.terms.map (fun t => (t, bl)) ++ (f.args.take m).flatMap (Fm.tms (upF f.kind bl)))
        have hle2 : ((f.terms.map (fun t => (t, bl)) ++ (f.args.take m).flatMap (Fm.tms (upF f.kind bl))).map fun p : Tm × Int => p.1.size).sum + (f.args[m]).size ≤ f.size := tms_le2 f bl m hm
        have hc := ih f.args[m] (c + cntF at_ (f.terms.map (fun t => (t, bl)) ++ (f.args.take m).flatMap (Fm.tms (upF f.kind bl)))) (upF f.kind bl) (by omega) (by omega) hup0 (by omega) (by omega) (by omega) (fun p hp => hix p (by rw [htm]; exact List.mem_append_right _ (List.mem_flatMap.2 ⟨_, List.getElem_mem hm, hp⟩)))
        repeat' (first | ((with_reducible refine D.nil ?_); refine AX.nilL ?_) | ((with_reducible refine D.load ?_); first | refine L.ldb U U U U U U ?_ | refine L.lda U U U U U ?_) | ((with_reducible refine D.move ?_); refine L.mv U U U ?_) | ((with_reducible refine D.call ?_); (apply L.cv2 (hc) [0, 1] 0 rfl; rfl; rfl; rfl; rfl; rfl; rfl; rfl; (focus ((repeat' (first | exact trivial | refine And.intro ?_ ?_ | refine ⟨_, U, _, U, _, U, ?_⟩ | exact VLe.refl _)); done)); rfl; rfl; rfl; rfl)) | ((with_reducible refine D.alloc ?_); refine L.al U U U ?_) | ((with_reducible refine D.store ?_); refine L.st U U U U U U U U U ?_) | ((with_reducible refine D.indexAddr ?_); refine L.ixt _ U U U U U U U (by assumption) ?_) | ((with_reducible refine D.aw ?_); first | refine K.sq (AW.regL ?_) | refine AW.regL ?_) | with_reducible refine K.tN ?_ | with_reducible refine K.bN ?_)
        refine ⟨rfl, trivial, ?_⟩
        exact (Weak.mk [some 0, some 1, some 2] _ _ _ U U U U (by (repeat' (first | exact trivial | refine And.intro ?_ ?_ | refine ⟨_, U, _, U, ?_⟩ | exact VLe.refl _)); done) (by (repeat' (first | exact trivial | refine And.intro ?_ ?_ | refine ⟨_, U, _, U, _, U, ?_⟩ | exact VLe.refl _ | exact VLe.of_eq (by simp [Sto.upd, cntF_append, Int.natCast_add, Int.add_assoc, flat_take _ _ _ hm]))); done))
      · intro _
        skip
        (exact K.n2 [some 0, some 1] U U U U U (by (repeat' (first | exact trivial | refine And.intro ?_ ?_ | refine ⟨_, U, _, U, _, U, ?_⟩ | exact VLe.refl _ | exact VLe.of_eq (by simp [Sto.upd, htm]))); done) U (by simp [tupV, V.wk, V.wks, constV, Ty.view, Tm.view, htm]))
theorem enear_c (f : Fm) (hf : f.full < 274877906944) : PC E 46 [.agg f.view] (.bool f.nearE) := by
  have hc := nearEEachF _ f true 0 (Nat.le_refl _) (by omega) (by omega) (by omega)
  refine AC.mk Tryz.func46 rfl rfl rfl rfl rfl (Nat.le_of_ble_eq_true rfl) ?_
  repeat' (first | ((with_reducible refine D.nil ?_); refine AX.nilL ?_) | ((with_reducible refine D.load ?_); refine L.ldb U U U U U U ?_) | ((with_reducible refine D.assign ?_); refine L.asg U U U ?_) | ((with_reducible refine D.call ?_); (apply L.cv2 (hc) [1] 0 rfl; rfl; rfl; rfl; rfl; rfl; rfl; rfl; (focus ((repeat' (first | exact trivial | refine And.intro ?_ ?_ | refine ⟨_, U, _, U, _, U, ?_⟩ | exact VLe.refl _)); done)); rfl; rfl; rfl; rfl)) | ((with_reducible refine D.box ?_); refine L.bx U U U U ?_) | ((with_reducible refine D.alloc ?_); refine L.al U U U ?_) | ((with_reducible refine D.store ?_); refine L.st U U U U U U U U U ?_) | ((with_reducible refine D.ax ?_); refine L.mf U U U U ?_) | ((with_reducible refine D.aw ?_); first | refine K.sq (AW.regL ?_) | refine AW.ret ?_) | with_reducible refine K.tN ?_ | with_reducible refine K.r1 (by with_unfolding_all rfl) (by with_unfolding_all rfl) ?_)
  simp [tupV, V.wk, V.wks, allP, Fm.nearE]
theorem nearFm_c (f : Fm) (hf : f.full < 274877906944) : PC E 97 [.agg f.view] (.bool f.near) := by
  have hc := nearFEachF _ f true 0 (Nat.le_refl _) (by omega) (by omega) (by omega)
  refine AC.mk Tryz.func97 rfl rfl rfl rfl rfl (Nat.le_of_ble_eq_true rfl) ?_
  repeat' (first | ((with_reducible refine D.nil ?_); refine AX.nilL ?_) | ((with_reducible refine D.load ?_); refine L.ldb U U U U U U ?_) | ((with_reducible refine D.assign ?_); refine L.asg U U U ?_) | ((with_reducible refine D.call ?_); (apply L.cv2 (hc) [1] 0 rfl; rfl; rfl; rfl; rfl; rfl; rfl; rfl; (focus ((repeat' (first | exact trivial | refine And.intro ?_ ?_ | refine ⟨_, U, _, U, _, U, ?_⟩ | exact VLe.refl _)); done)); rfl; rfl; rfl; rfl)) | ((with_reducible refine D.box ?_); refine L.bx U U U U ?_) | ((with_reducible refine D.alloc ?_); refine L.al U U U ?_) | ((with_reducible refine D.store ?_); refine L.st U U U U U U U U U ?_) | ((with_reducible refine D.ax ?_); refine L.mf U U U U ?_) | ((with_reducible refine D.aw ?_); first | refine K.sq (AW.regL ?_) | refine AW.ret ?_) | with_reducible refine K.tN ?_ | with_reducible refine K.r1 (by with_unfolding_all rfl) (by with_unfolding_all rfl) ?_)
  simp [tupV, V.wk, V.wks, allP, Fm.near]
theorem countFm_c (f : Fm) (at_ : Int) (ha : 0 ≤ at_ ∧ at_ < 549755813888) (hf : f.full < 274877906944) (hix : ∀ p ∈ f.tms 0, ∀ q ∈ p.1.vars 0, 0 ≤ q.1 ∧ q.1 < 1099511627776) : PC E 98 [.agg f.view, .i at_] (.i (cntF at_ (f.tms 0))) := by
  have hle := f.size_le_full
  have hc := countFEachF at_ (f.size) ha (by omega) _ f 0 0 (Nat.le_refl _) (by omega) (by omega) (by omega) (by omega) (by omega) hix
  refine AC.mk Tryz.func98 rfl rfl rfl rfl rfl (Nat.le_of_ble_eq_true rfl) ?_
  repeat' (first | ((with_reducible refine D.nil ?_); refine AX.nilL ?_) | ((with_reducible refine D.load ?_); refine L.ldb U U U U U U ?_) | ((with_reducible refine D.assign ?_); refine L.asg U U U ?_) | ((with_reducible refine D.call ?_); (apply L.cv2 (hc) [2, 1] 0 rfl; rfl; rfl; rfl; rfl; rfl; rfl; rfl; (focus ((repeat' (first | exact trivial | refine And.intro ?_ ?_ | refine ⟨_, U, _, U, _, U, ?_⟩ | exact VLe.refl _)); done)); rfl; rfl; rfl; rfl)) | ((with_reducible refine D.box ?_); refine L.bx U U U U ?_) | ((with_reducible refine D.alloc ?_); refine L.al U U U ?_) | ((with_reducible refine D.store ?_); refine L.st U U U U U U U U U ?_) | ((with_reducible refine D.ax ?_); refine L.mf U U U U ?_) | ((with_reducible refine D.aw ?_); first | refine K.sq (AW.regL ?_) | refine AW.ret ?_) | with_reducible refine K.tN ?_ | with_reducible refine K.r1 (by with_unfolding_all rfl) (by with_unfolding_all rfl) ?_)
  simp [tupV, V.wk, V.wks]
end Go.Ab
namespace Go.Ab
open Go Go.Proofs
set_option maxRecDepth 100000
set_option maxHeartbeats 4000000
set_option linter.all false
theorem putFmCb (at_ : Int) (s : Tm) (hat : 0 ≤ at_ ∧ at_ < 274877906944) (hs : s.full < 274877906944) (hsi : ∀ p ∈ s.vars 0, 0 ≤ p.1 ∧ p.1 < 549755813888) (t : Tm) (bl : Int) (ht : t.full < 274877906944) (hb : 0 ≤ bl ∧ bl < 274877906944) (hix : ∀ p ∈ t.vars 0, 0 ≤ p.1 ∧ p.1 < 549755813888) :
    AC E 141 [.agg t.view, .i bl, .ptr 0 0, .ptr 1 0] ⟨2, [(0, .var [.i at_]), (1, .var s.view)]⟩ (.agg (t.re (putG (at_ + bl) s) 0).view) ⟨2, [(0, .var [.i at_]), (1, .var s.view)]⟩ := by
  have hc := put_c t (at_ + bl) s (by omega) hs hsi ht hix
  refine AC.mk Tryz.func141 rfl rfl rfl rfl rfl (Nat.le_of_ble_eq_true rfl) ?_
  repeat' (first | ((with_reducible refine D.nil ?_); refine AX.nilL ?_) | ((with_reducible refine D.load ?_); refine L.ldb U U U U U U ?_) | ((with_reducible refine D.move ?_); refine L.mv U U U ?_) | ((with_reducible refine D.bin ?_); refine L.ad U U U U (by omega) ?_) | ((with_reducible refine D.call ?_); refine L.c2 (hc) U U U U ?_) | ((with_reducible refine D.box ?_); refine L.bx U U U U ?_) | ((with_reducible refine D.alloc ?_); refine L.al U U U ?_) | ((with_reducible refine D.store ?_); refine L.st U U U U U U U U U ?_) | ((with_reducible refine D.aw ?_); first | refine K.sq (AW.regL ?_) | refine AW.ret ?_) | with_reducible refine K.tN ?_)
  (exact K.n2 [some 0, some 1] U U U U U (by (repeat' (first | exact trivial | refine And.intro ?_ ?_ | refine ⟨_, U, _, U, _, U, ?_⟩ | exact VLe.refl _)); done) U (by simp [tupV, V.wk, V.wks, constV, Ty.view, Tm.view, hc]))
theorem putFmRe (at_ : Int) (s : Tm) (hat : 0 ≤ at_ ∧ at_ < 274877906944) (hs : s.full < 274877906944) (hsi : ∀ p ∈ s.vars 0, 0 ≤ p.1 ∧ p.1 < 549755813888) : ∀ (n : Nat) (f : Fm) (bl : Int), f.full ≤ n → n < 274877906944 → 0 ≤ bl → bl + n < 274877906944 → (∀ p ∈ f.tms bl, ∀ q ∈ p.1.vars 0, 0 ≤ q.1 ∧ q.1 < 549755813888) →
    AC E 88 [.agg f.view, .i bl, .fn (.func 141) [] [.ptr 0 0, .ptr 1 0]] ⟨2, [(0, .var [.i at_]), (1, .var s.view)]⟩ (.agg (f.re (fun b t => t.re (putG (at_ + b) s) 0) bl).view) ⟨2, [(0, .var [.i at_]), (1, .var s.view)]⟩ := by
  intro n
  induction n with
  | zero => intro f bl h; intros; have := f.full_pos; omega
  | succ n ih =>
  intro f bl hsz hb hbl hbn hix
  have hsz' := f.full_eq
  have hlen := lsum_len Fm.full Fm.full_pos f.args
  have hlen2 := lsum_len Tm.full Tm.full_pos f.terms
  have hty := ownTy_c _ f.ty (Nat.le_refl _) (by omega)
  have hq := quantifier_c f.kind
  have hre := Fm.re_eq (fun b t => t.re (putG (at_ + b) s) 0) bl f
  have htm := f.tms_eq bl
  refine AC.mk Tryz.func88 rfl rfl rfl rfl rfl (Nat.le_of_ble_eq_true rfl) ?_
  repeat' (first | ((with_reducible refine D.nil ?_); first | refine AX.nilL ?_ | refine AX.nilD (by kernel_rfl) ?_) | ((with_reducible refine D.load ?_); refine L.ldb U U U U U U ?_) | ((with_reducible refine D.move ?_); refine L.mv U U U ?_) | ((with_reducible refine D.fieldAddr ?_); refine L.fab U U U U U ?_) | ((with_reducible refine D.call ?_); first | refine L.lnt U U U U ?_ | refine L.c2 (hty) U U U U ?_) | ((with_reducible refine D.box ?_); refine L.bx U U U U ?_) | ((with_reducible refine D.alloc ?_); refine L.al U U U ?_) | ((with_reducible refine D.store ?_); refine L.st U U U U U U U U U ?_) | ((with_reducible refine D.ax ?_); refine L.bd U U U U U ?_) | ((with_reducible refine D.aw ?_); first | refine K.sq (AW.regL ?_) | refine K.sq (AW.regD mixed (by kernel_rfl) ?_) | refine K.sq (K.sq ?_) | refine AW.regL ?_) | with_reducible refine K.tN ?_)
  refine AW.range f.terms.length (fun m => True)
    (fun m => ([(1, .i bl), (2, .fn (.func 141) [] [.ptr 0 0, .ptr 1 0]), (3, .ptr 2 0), (6, .ptr 3 0), (7, .ptr 4 0), (19, .s .tm f.terms), (20, .i f.terms.length), (21, .i m)], ⟨6, [(0, .var [.i at_]), (1, .var s.view), (2, .var f.view), (3, .var [.i 0, .i 0, .slice .nil (.t .ty []), .slice .nil (.t .tm []), .slice .nil (.t .fm [])]), (4, .var [.i f.kind, .i f.ty.kind, .s .ty f.ty.args, .slice (.own 5) (.t .tm ((f.terms.take m).map ((fun b t => t.re (putG (at_ + b) s) 0) bl))), .slice .nil (.t .fm [])]), (5, .row)]⟩))
    (by omega) (fun m => rfl) (fun m => rfl) U trivial (Weak.mk [some 0, some 1, some 2, some 3, some 4, none] _ _ _ U U U U (by (repeat' (first | exact trivial | refine And.intro ?_ ?_ | refine ⟨_, U, _, U, ?_⟩ | exact VLe.refl _)); done) (by (repeat' (first | exact trivial | exact Or.inl U | refine And.intro ?_ ?_ | refine ⟨_, U, _, U, _, U, ?_⟩ | exact VLe.refl _)); done)) ?_ ?_
  · intro m hm _
    have hs2 := lsum_mem Tm.full (List.getElem_mem hm)
    have hc := putFmCb at_ s hat hs hsi f.terms[m] bl (by omega) (by omega) (fun p hp => hix _ (by rw [htm]; exact List.mem_append_left _ (List.mem_map.2 ⟨_, List.getElem_mem hm, rfl⟩)) p hp)
    repeat' (first | ((with_reducible refine D.nil ?_); first | refine AX.nilL ?_ | refine AX.nilD (by kernel_rfl) ?_) | ((with_reducible refine D.load ?_); first | refine L.ldb U U U U U U ?_ | refine L.lda U U U U U ?_) | ((with_reducible refine D.move ?_); refine L.mv U U U ?_) | ((with_reducible refine D.fieldAddr ?_); refine L.fab U U U U U ?_) | ((with_reducible refine D.call ?_); first | refine L.apt U U U U U U (by first | exact trivial | exact ⟨rfl, trivial⟩) U U (by first | omega | (simp; omega)) ?_ | (apply L.cv2 (hc) [0, 1] 0 rfl; rfl; rfl; rfl; rfl; rfl; rfl; rfl; (focus ((repeat' (first | exact trivial | refine And.intro ?_ ?_ | refine ⟨_, U, _, U, _, U, ?_⟩ | exact VLe.refl _)); done)); rfl; rfl; rfl; rfl)) | ((with_reducible refine D.alloc ?_); refine L.al U U U ?_) | ((with_reducible refine D.store ?_); refine L.st U U U U U U U U U ?_) | ((with_reducible refine D.indexAddr ?_); refine L.ixt _ U U U U U U U (by assumption) ?_) | ((with_reducible refine D.ax ?_); refine L.bs1 U U U U U (EC.fold_of U) U U ?_) | ((with_reducible refine D.aw ?_); first | refine K.sq (AW.regL ?_) | refine AW.regD mixed (by kernel_rfl) ?_) | with_reducible refine K.tN ?_ | with_reducible refine K.bN ?_)
    exact ⟨rfl, trivial, (Weak.mk [some 0, some 1, some 2, some 3, some 4, some 7] _ _ _ U U U U (by (repeat' (first | exact trivial | refine And.intro ?_ ?_ | refine ⟨_, U, _, U, ?_⟩ | exact VLe.refl _)); done) (by (repeat' (first | exact trivial | exact Or.inr ⟨_, U, rfl⟩ | refine And.intro ?_ ?_ | refine ⟨_, U, _, U, _, U, ?_⟩ | exact VLe.refl _ | exact VLe.of_eq (by simp [Sto.upd, map_take _ _ _ hm]))); done))⟩
  · intro _
    simp only [List.take_length]
    cases hqk : quantK f.kind with
    | true =>
      rw [hqk] at hq
      have hu : upF f.kind bl = bl + 1 := by simp [upF, hqk]
      rw [hu] at hre htm
      repeat' (first | ((with_reducible refine D.nil ?_); refine AX.nilL ?_) | ((with_reducible refine D.load ?_); refine L.ldb U U U U U U ?_) | ((with_reducible refine D.move ?_); refine L.mv U U U ?_) | ((with_reducible refine D.fieldAddr ?_); refine L.fab U U U U U ?_) | ((with_reducible refine D.assign ?_); refine L.asg U U U ?_) | ((with_reducible refine D.bin ?_); refine L.ad U U U U (by omega) ?_) | ((with_reducible refine D.call ?_); first | refine L.lnt U U U U ?_ | refine L.c2 (hq) U U U U ?_) | ((with_reducible refine D.aw ?_); first | refine K.sq (K.sq ?_) | refine AW.regL ?_ | refine AW.condT U ?_) | with_reducible refine K.tN ?_)
      refine AW.range f.args.length (fun m => True)
        (fun m => ([(1, .i (bl + 1)), (2, .fn (.func 141) [] [.ptr 0 0, .ptr 1 0]), (3, .ptr 2 0), (6, .ptr 3 0), (7, .ptr 4 0), (41, .s .fm f.args), (42, .i f.args.length), (43, .i m)], ⟨7, [(0, .var [.i at_]), (1, .var s.view), (2, .var f.view), (3, .var [.i 0, .i 0, .slice .nil (.t .ty []), .slice .nil (.t .tm []), .slice .nil (.t .fm [])]), (4, .var [.i f.kind, .i f.ty.kind, .s .ty f.ty.args, .slice (.own 5) (.t .tm (f.terms.map ((fun b t => t.re (putG (at_ + b) s) 0) bl))), .slice (.own 6) (.t .fm ((f.args.take m).map (Fm.re (fun b t => t.re (putG (at_ + b) s) 0) (bl + 1))))]), (5, .row), (6, .row)]⟩))
        (by omega) (fun m => rfl) (fun m => rfl) U trivial (Weak.mk [some 0, some 1, some 2, some 3, some 4, some 5, none] _ _ _ U U U U (by (repeat' (first | exact trivial | refine And.intro ?_ ?_ | refine ⟨_, U, _, U, ?_⟩ | exact VLe.refl _)); done) (by (repeat' (first | exact trivial | exact Or.inl U | exact Or.inr ⟨_, U, rfl⟩ | refine And.intro ?_ ?_ | refine ⟨_, U, _, U, _, U, ?_⟩ | exact VLe.refl _)); done)) ?_ ?_
      · intro m hm _
        have hs2 := lsum_mem Fm.full (List.getElem_mem hm)
        have hc := ih f.args[m] (bl + 1) (by omega) (by omega) (by omega) (by omega) (fun p hp => hix p (by rw [htm]; exact List.mem_append_right _ (List.mem_flatMap.2 ⟨_, List.getElem_mem hm, hp⟩)))
        repeat' (first | ((with_reducible refine D.nil ?_); first | refine AX.nilL ?_ | refine AX.nilD (by kernel_rfl) ?_) | ((with_reducible refine D.load ?_); first | refine L.ldb U U U U U U ?_ | refine L.lda U U U U U ?_) | ((with_reducible refine D.move ?_); refine L.mv U U U ?_) | ((with_reducible refine D.fieldAddr ?_); refine L.fab U U U U U ?_) | ((with_reducible refine D.call ?_); first | refine L.apt U U U U U U (by first | exact trivial | exact ⟨rfl, trivial⟩) U U (by first | omega | (simp; omega)) ?_ | (apply L.cv2 (hc) [0, 1] 0 rfl; rfl; rfl; rfl; rfl; rfl; rfl; rfl; (focus ((repeat' (first | exact trivial | refine And.intro ?_ ?_ | refine ⟨_, U, _, U, _, U, ?_⟩ | exact VLe.refl _)); done)); rfl; rfl; rfl; rfl)) | ((with_reducible refine D.alloc ?_); refine L.al U U U ?_) | ((with_reducible refine D.store ?_); refine L.st U U U U U U U U U ?_) | ((with_reducible refine D.indexAddr ?_); refine L.ixt _ U U U U U U U (by assumption) ?_) | ((with_reducible refine D.ax ?_); refine L.bs1 U U U U U (EC.fold_of U) U U ?_) | ((with_reducible refine D.aw ?_); first | refine K.sq (AW.regL ?_) | refine AW.regD mixed (by kernel_rfl) ?_) | with_reducible refine K.tN ?_ | with_reducible refine K.bN ?_)
        exact ⟨rfl, trivial, (Weak.mk [some 0, some 1, some 2, some 3, some 4, some 5, some 8] _ _ _ U U U U (by (repeat' (first | exact trivial | refine And.intro ?_ ?_ | refine ⟨_, U, _, U, ?_⟩ | exact VLe.refl _)); done) (by (repeat' (first | exact trivial | exact Or.inr ⟨_, U, rfl⟩ | refine And.intro ?_ ?_ | refine ⟨_, U, _, U, _, U, ?_⟩ | exact VLe.refl _ | exact VLe.of_eq (by simp [Sto.upd, map_take _ _ _ hm]))); done))⟩
      · intro _
        simp only [List.take_length]
        repeat' (first | ((with_reducible refine D.nil ?_); refine AX.nilL ?_) | ((with_reducible refine D.load ?_); refine L.ldb U U U U U U ?_) | ((with_reducible refine D.store ?_); refine L.st U U U U U U U U U ?_) | ((with_reducible refine D.aw ?_); first | refine K.sq (AW.regL ?_) | refine AW.ret ?_) | with_reducible refine K.tN ?_)
        (exact K.n2 [some 0, some 1] U U U U U (by (repeat' (first | exact trivial | refine And.intro ?_ ?_ | refine ⟨_, U, _, U, _, U, ?_⟩ | exact VLe.refl _)); done) U (by simp [tupV, V.wk, V.wks, constV, Ty.view, Tm.view, hre]))
    | false =>
      rw [hqk] at hq
      have hu : upF f.kind bl = bl := by simp [upF, hqk]
      rw [hu] at hre htm
      repeat' (first | ((with_reducible refine D.nil ?_); refine AX.nilL ?_) | ((with_reducible refine D.load ?_); refine L.ldb U U U U U U ?_) | ((with_reducible refine D.move ?_); refine L.mv U U U ?_) | ((with_reducible refine D.fieldAddr ?_); refine L.fab U U U U U ?_) | ((with_reducible refine D.call ?_); first | refine L.lnt U U U U ?_ | refine L.c2 (hq) U U U U ?_) | ((with_reducible refine D.aw ?_); first | refine K.sq (K.sq ?_) | refine AW.regL ?_ | refine AW.condF U ?_ | refine AW.skip ?_) | with_reducible refine K.tN ?_)
      refine AW.range f.args.length (fun m => True)
        (fun m => ([(1, .i bl), (2, .fn (.func 141) [] [.ptr 0 0, .ptr 1 0]), (3, .ptr 2 0), (6, .ptr 3 0), (7, .ptr 4 0), (41, .s .fm f.args), (42, .i f.args.length), (43, .i m)], ⟨7, [(0, .var [.i at_]), (1, .var s.view), (2, .var f.view), (3, .var [.i 0, .i 0, .slice .nil (.t .ty []), .slice .nil (.t .tm []), .slice .nil (.t .fm [])]), (4, .var [.i f.kind, .i f.ty.kind, .s .ty f.ty.args, .slice (.own 5) (.t .tm (f.terms.map ((fun b t => t.re (putG (at_ + b) s) 0) bl))), .slice (.own 6) (.t .fm ((f.args.take m).map (Fm.re (fun b t => t.re (putG (at_ + b) s) 0) bl)))]), (5, .row), (6, .row)]⟩))
        (by omega) (fun m => rfl) (fun m => rfl) U trivial (Weak.mk [some 0, some 1, some 2, some 3, some 4, some 5, none] _ _ _ U U U U (by (repeat' (first | exact trivial | refine And.intro ?_ ?_ | refine ⟨_, U, _, U, ?_⟩ | exact VLe.refl _)); done) (by (repeat' (first | exact trivial | exact Or.inl U | exact Or.inr ⟨_, U, rfl⟩ | refine And.intro ?_ ?_ | refine ⟨_, U, _, U, _, U, ?_⟩ | exact VLe.refl _)); done)) ?_ ?_
      · intro m hm _
        have hs2 := lsum_mem Fm.full (List.getElem_mem hm)
        have hc := ih f.args[m] bl (by omega) (by omega) (by omega) (by omega) (fun p hp => hix p (by rw [htm]; exact List.mem_append_right _ (List.mem_flatMap.2 ⟨_, List.getElem_mem hm, hp⟩)))
        repeat' (first | ((with_reducible refine D.nil ?_); first | refine AX.nilL ?_ | refine AX.nilD (by kernel_rfl) ?_) | ((with_reducible refine D.load ?_); first | refine L.ldb U U U U U U ?_ | refine L.lda U U U U U ?_) | ((with_reducible refine D.move ?_); refine L.mv U U U ?_) | ((with_reducible refine D.fieldAddr ?_); refine L.fab U U U U U ?_) | ((with_reducible refine D.call ?_); first | refine L.apt U U U U U U (by first | exact trivial | exact ⟨rfl, trivial⟩) U U (by first | omega | (simp; omega)) ?_ | (apply L.cv2 (hc) [0, 1] 0 rfl; rfl; rfl; rfl; rfl; rfl; rfl; rfl; (focus ((repeat' (first | exact trivial | refine And.intro ?_ ?_ | refine ⟨_, U, _, U, _, U, ?_⟩ | exact VLe.refl _)); done)); rfl; rfl; rfl; rfl)) | ((with_reducible refine D.alloc ?_); refine L.al U U U ?_) | ((with_reducible refine D.store ?_); refine L.st U U U U U U U U U ?_) | ((with_reducible refine D.indexAddr ?_); refine L.ixt _ U U U U U U U (by assumption) ?_) | ((with_reducible refine D.ax ?_); refine L.bs1 U U U U U (EC.fold_of U) U U ?_) | ((with_reducible refine D.aw ?_); first | refine K.sq (AW.regL ?_) | refine AW.regD mixed (by kernel_rfl) ?_) | with_reducible refine K.tN ?_ | with_reducible refine K.bN ?_)
        exact ⟨rfl, trivial, (Weak.mk [some 0, some 1, some 2, some 3, some 4, some 5, some 8] _ _ _ U U U U (by (repeat' (first | exact trivial | refine And.intro ?_ ?_ | refine ⟨_, U, _, U, ?_⟩ | exact VLe.refl _)); done) (by (repeat' (first | exact trivial | exact Or.inr ⟨_, U, rfl⟩ | refine And.intro ?_ ?_ | refine ⟨_, U, _, U, _, U, ?_⟩ | exact VLe.refl _ | exact VLe.of_eq (by simp [Sto.upd, map_take _ _ _ hm]))); done))⟩
      · intro _
        simp only [List.take_length]
        repeat' (first | ((with_reducible refine D.nil ?_); refine AX.nilL ?_) | ((with_reducible refine D.load ?_); refine L.ldb U U U U U U ?_) | ((with_reducible refine D.store ?_); refine L.st U U U U U U U U U ?_) | ((with_reducible refine D.aw ?_); first | refine K.sq (AW.regL ?_) | refine AW.ret ?_) | with_reducible refine K.tN ?_)
        (exact K.n2 [some 0, some 1] U U U U U (by (repeat' (first | exact trivial | refine And.intro ?_ ?_ | refine ⟨_, U, _, U, _, U, ?_⟩ | exact VLe.refl _)); done) U (by simp [tupV, V.wk, V.wks, constV, Ty.view, Tm.view, hre]))
theorem putFm_c (f : Fm) (at_ : Int) (s : Tm) (hat : 0 ≤ at_ ∧ at_ < 274877906944) (hs : s.full < 274877906944) (hsi : ∀ p ∈ s.vars 0, 0 ≤ p.1 ∧ p.1 < 549755813888) (hf : f.full < 137438953472) (hix : ∀ p ∈ f.tms 0, ∀ q ∈ p.1.vars 0, 0 ≤ q.1 ∧ q.1 < 549755813888) : PC E 99 [.agg f.view, .i at_, .agg s.view] (.agg (f.put at_ s).view) := by
  have hc := putFmRe at_ s hat hs hsi _ f 0 (Nat.le_refl _) (by omega) (by omega) (by omega) hix
  refine AC.mk Tryz.func99 rfl rfl rfl rfl rfl (Nat.le_of_ble_eq_true rfl) ?_
  repeat' (first | ((with_reducible refine D.nil ?_); refine AX.nilL ?_) | ((with_reducible refine D.load ?_); refine L.ldb U U U U U U ?_) | ((with_reducible refine D.call ?_); (apply L.cv2 (hc) [1, 2] 0 rfl; rfl; rfl; rfl; rfl; rfl; rfl; rfl; (focus ((repeat' (first | exact trivial | refine And.intro ?_ ?_ | refine ⟨_, U, _, U, _, U, ?_⟩ | exact VLe.refl _)); done)); rfl; rfl; rfl; rfl)) | ((with_reducible refine D.box ?_); refine L.bx U U U U ?_) | ((with_reducible refine D.alloc ?_); refine L.al U U U ?_) | ((with_reducible refine D.store ?_); refine L.st U U U U U U U U U ?_) | ((with_reducible refine D.ax ?_); refine L.mf U U U U ?_) | ((with_reducible refine D.aw ?_); first | refine K.sq (AW.regL ?_) | refine AW.ret ?_) | with_reducible refine K.tN ?_ | with_reducible refine K.r1 (by with_unfolding_all rfl) (by with_unfolding_all rfl) ?_)
  rfl
theorem fsize_c (f : Fm) (hf : f.full < 1099511627776) : PC E 94 [.agg f.view] (.tup [.i f.num, .i f.err]) := by
  have h1 := checkFm_c f hf
  refine AC.mk Tryz.func94 rfl rfl rfl rfl rfl (Nat.le_of_ble_eq_true rfl) ?_
  repeat' (first | ((with_reducible refine D.nil ?_); refine AX.nilL ?_) | ((with_reducible refine D.load ?_); refine L.ldb U U U U U U ?_) | ((with_reducible refine D.assign ?_); refine L.asg U U U ?_) | ((with_reducible refine D.call ?_); refine L.c2 (h1) U U U U ?_) | ((with_reducible refine D.extract ?_); refine L.ex U U U U ?_) | ((with_reducible refine D.box ?_); refine L.bx U U U U ?_) | ((with_reducible refine D.aw ?_); first | refine K.sq (AW.regL ?_) | refine AW.ret ?_) | with_reducible refine K.tN ?_ | with_reducible refine K.r1 (by with_unfolding_all rfl) (by with_unfolding_all rfl) ?_)
  rfl
theorem fwithin_c (n : Int) : PC E 95 [.i n] (.bool (decide (0 ≤ n ∧ n ≤ 4096))) := by
  refine AC.mk Tryz.func95 rfl rfl rfl rfl rfl (Nat.le_of_ble_eq_true rfl) ?_
  repeat' (first | ((with_reducible refine D.nil ?_); refine AX.nilL ?_) | ((with_reducible refine D.move ?_); first | refine L.mv U U U ?_ | refine AX.sk U U ?_ | ((fail_if_success refine AX.wt U ?_); refine AX.gs U U (fun _ => trivial) (fun h => ?_) (fun h => ?_))) | ((with_reducible refine D.assign ?_); refine L.asg U U U ?_) | ((with_reducible refine D.bin ?_); first | refine L.bn U U U U U ?_ | refine AX.sk U U ?_) | ((with_reducible refine D.pick ?_); refine L.pk U U U U ?_) | ((with_reducible refine D.aw ?_); first | refine K.sq (AW.regL ?_) | refine AW.ret ?_) | with_reducible refine K.tN ?_ | with_reducible refine K.r1 (by with_unfolding_all rfl) (by with_unfolding_all rfl) ?_)
  all_goals (simp_all [tupV, V.wk, V.wks, constV]; try omega)
theorem fput_c (f : Fm) (at_ : Int) (s : Tm) (hf : f.full < 137438953472) (hs : s.full < 274877906944) : PC E 45 [.agg f.view, .i at_, .agg s.view] (.tup [.agg (if putFErr f at_ s = 0 then f.put at_ s else noFm).view, .i (putFErr f at_ s)]) := by
  have h1 := fsize_c f (by omega)
  have h2 := size_c s (by omega)
  have h3 := fwithin_c at_
  have h4 := nearFm_c f (by omega)
  have h5 := near_c s (by omega)
  have h6 : f.err = 0 → f.near = true → 0 ≤ at_ ∧ at_ ≤ 4096 → _ := fun h hn ha => countFm_c f at_ (by omega) (by omega) fun p hp q hq => by have := nearF_lt h hn p hp q hq; omega
  have h7 : f.err = 0 → f.near = true → s.err = 0 → s.near = true → 0 ≤ at_ ∧ at_ ≤ 4096 → _ := fun h hn h' hn' ha => putFm_c f at_ s (by omega) hs (near_lt h' hn') hf (nearF_lt h hn)
  have hn1 := fnum_le f
  have hn2 := num_le s
  have hle := f.size_le_full
  have hcl := cntF_le at_ (f.tms 0)
  have hvl := tms_size f 0
  have hm := mul_bd (cntF at_ (f.tms 0)) (s.num - 1) (by omega) (by omega)
  have hm' : -9223372036854775808 ≤ (cntF at_ (f.tms 0) : Int) * (s.num - 1) ∧ (cntF at_ (f.tms 0) : Int) * (s.num - 1) ≤ 9223372036854775807 := by omega
  refine AC.mk Tryz.func45 rfl rfl rfl rfl rfl (Nat.le_of_ble_eq_true rfl) ?_
  repeat' (first | ((with_reducible refine D.nil ?_); refine AX.nilL ?_) | ((with_reducible refine D.load ?_); first | refine L.ldb U U U U U U ?_ | refine AX.sk U U ?_ | ((fail_if_success refine AX.wt U ?_); refine AX.gs U U (fun _ => trivial) (fun h => ?_) (fun h => ?_))) | ((with_reducible refine D.move ?_); refine L.mv U U U ?_) | ((with_reducible refine D.assign ?_); refine L.asg U U U ?_) | ((with_reducible refine D.bin ?_); first | refine L.ad U U U U (by omega) ?_ | refine L.sb U U U U (by omega) ?_ | refine L.ml U U U U (by first | omega | assumption) ?_ | refine L.bn U U U U U ?_) | ((with_reducible refine D.call ?_); first | refine L.c2 (h1) U U U U ?_ | refine L.c2 (h2) U U U U ?_ | refine L.c2 (h3) U U U U ?_ | refine L.c2 (h4) U U U U ?_ | refine L.c2 (h5) U U U U ?_ | refine L.c2 (h6 (by simp_all) (by simp_all) (by simp_all)) U U U U ?_ | refine L.c2 (h7 (by simp_all) (by simp_all) (by simp_all) (by simp_all) (by simp_all)) U U U U ?_ | refine AX.sk U U ?_) | ((with_reducible refine D.extract ?_); refine L.ex U U U U ?_) | ((with_reducible refine D.box ?_); refine L.bx U U U U ?_) | ((with_reducible refine D.alloc ?_); refine L.al U U U ?_) | ((with_reducible refine D.store ?_); refine L.st U U U U U U U U U ?_) | ((with_reducible refine D.not ?_); first | refine L.nt U U U ?_ | refine AX.sk U U ?_) | ((with_reducible refine D.pick ?_); refine L.pk U U U U ?_) | ((with_reducible refine D.ax ?_); refine L.bd U U U U U ?_) | ((with_reducible refine D.aw ?_); first | refine K.sq (AW.regL ?_) | refine K.sq (K.sq ?_) | refine AW.regL ?_ | refine AW.condT U ?_ | refine AW.condS U (fun h => ?_) (fun h => ?_) | refine AW.skip ?_ | refine AW.ret ?_) | with_reducible refine K.tN ?_ | with_reducible refine K.tR ?_ | with_reducible refine K.r1 (by with_unfolding_all rfl) (by with_unfolding_all rfl) ?_)
  all_goals first
    | (simp_all [tupV, V.wk, V.wks, constV, Ty.view, Fm.view, putFErr, noFm, Fm.num, Tm.num]; done)
    | skip
  rename_i h0
  have h' : ¬ (0 ≤ at_ ∧ at_ ≤ 4096) := by intro hc; simp [hc] at h
  have h0' : f.err = 0 := by simpa using h0
  have e : putFErr f at_ s = 1 := by simp only [putFErr, h0', ne_eq, not_true_eq_false, if_false, h', not_false_eq_true, if_true]
  simp [tupV, V.wk, V.wks, constV, Ty.view, Fm.view, e, noFm]
theorem sameForm_c : ∀ (n : Nat) (x y : Fm), x.full ≤ n → n < 1099511627776 → PC E 108 [.agg x.view, .agg y.view] (.bool (decide (x = y))) := by
  intro n
  induction n with
  | zero => intro x y h; have := x.full_pos; omega
  | succ n ih =>
  intro x y hsz hb
  have hsz' := x.full_eq
  have hlen := lsum_len Fm.full Fm.full_pos x.args
  have hlen2 := lsum_len Tm.full Tm.full_pos x.terms
  have heq := Fm.eq_iff x y
  have hty := sameTy2_c _ x.ty y.ty (Nat.le_refl _) (by omega)
  refine AC.mk Tryz.func108 rfl rfl rfl rfl rfl (Nat.le_of_ble_eq_true rfl) ?_
  repeat' (first | ((with_reducible refine D.nil ?_); refine AX.nilL ?_) | ((with_reducible refine D.load ?_); first | refine L.ldb U U U U U U ?_ | refine AX.sk U U ?_) | ((with_reducible refine D.move ?_); refine L.mv U U U ?_) | ((with_reducible refine D.fieldAddr ?_); first | refine L.fab U U U U U ?_ | refine AX.sk U U ?_ | ((fail_if_success refine AX.wt U ?_); refine AX.gs U U (fun _ => trivial) (fun h => ?_) (fun h => ?_))) | ((with_reducible refine D.assign ?_); refine L.asg U U U ?_) | ((with_reducible refine D.bin ?_); first | refine L.bn U U U U U ?_ | refine AX.sk U U ?_) | ((with_reducible refine D.call ?_); first | refine L.lnt U U U U ?_ | refine L.c2 (hty) U U U U ?_ | refine AX.sk U U ?_) | ((with_reducible refine D.box ?_); refine L.bx U U U U ?_) | ((with_reducible refine D.not ?_); first | refine L.nt U U U ?_ | refine AX.sk U U ?_) | ((with_reducible refine D.pick ?_); refine L.pk U U U U ?_) | ((with_reducible refine D.aw ?_); first | refine K.sq (AW.regL ?_) | refine K.sq (K.sq ?_) | refine AW.regL ?_ | refine AW.condT U ?_ | refine AW.condS U (fun h => ?_) (fun h => ?_) | refine AW.skip ?_ | refine AW.ret ?_) | with_reducible refine K.tN ?_ | with_reducible refine K.tR ?_ | with_reducible refine K.r1 (by with_unfolding_all rfl) (by with_unfolding_all rfl) ?_)
  · have : ¬ x = y := by rw [heq]; simp_all
    simp [this, tupV, constV, V.wk, V.wks]
  · have : ¬ x = y := by rw [heq]; simp_all
    simp [this, tupV, constV, V.wk, V.wks]
  · have : ¬ x = y := by rintro rfl; simp at h
    simp [this, tupV, constV, V.wk, V.wks]
  · have : ¬ x = y := by rintro rfl; simp at h
    simp [this, tupV, constV, V.wk, V.wks]
  · rename_i h1 h2 h3
    simp at h h1 h2 h3
    have hl : x.args.length = y.args.length := by omega
    have hl2 : x.terms.length = y.terms.length := by omega
    refine AW.range x.terms.length (fun m => ∀ j (hj : j < x.terms.length), j < m → x.terms[j] = y.terms[j]'(by omega))
      (fun m => ([(2, .ptr 0 0), (3, .ptr 1 0), (41, .s .tm x.terms), (42, .i x.terms.length), (43, .i m)], ⟨2, [(0, .var x.view), (1, .var y.view)]⟩))
      (by omega) (fun m => rfl) (fun m => rfl) U (by intro j hj h; omega) (Weak.mk [some 0, some 1] _ _ _ U U U U (by (repeat' (first | exact trivial | refine And.intro ?_ ?_ | refine ⟨_, U, _, U, ?_⟩ | exact VLe.refl _)); done) (by (repeat' (first | exact trivial | refine And.intro ?_ ?_ | refine ⟨_, U, _, U, _, U, ?_⟩ | exact VLe.refl _)); done)) ?_ ?_
    · intro m hm hP
      have hm' : m < y.terms.length := by omega
      have hs2 := lsum_mem Tm.full (List.getElem_mem hm)
      have hc := sameTm2_c _ x.terms[m] y.terms[m] (Nat.le_refl _) (by omega)
      repeat' (first | ((with_reducible refine D.nil ?_); first | refine AX.nilL ?_ | refine AX.nilD (by kernel_rfl) ?_) | ((with_reducible refine D.load ?_); first | refine L.ldb U U U U U U ?_ | refine L.lda U U U U U ?_) | ((with_reducible refine D.move ?_); refine L.mv U U U ?_) | ((with_reducible refine D.fieldAddr ?_); refine L.fab U U U U U ?_) | ((with_reducible refine D.assign ?_); refine L.asg U U U ?_) | ((with_reducible refine D.call ?_); refine L.c2 (hc) U U U U ?_) | ((with_reducible refine D.alloc ?_); refine L.al U U U ?_) | ((with_reducible refine D.store ?_); refine L.st U U U U U U U U U ?_) | ((with_reducible refine D.indexAddr ?_); refine L.ixt _ U U U U U U U (by assumption) ?_) | ((with_reducible refine D.not ?_); refine L.nt U U U ?_) | ((with_reducible refine D.aw ?_); first | refine K.sq (AW.regL ?_) | refine K.sq (AW.regD mixed (by kernel_rfl) ?_) | refine AW.condS U (fun h => ?_) (fun h => ?_) | refine AW.skip ?_ | refine AW.ret ?_) | with_reducible refine K.tN ?_ | with_reducible refine K.bN ?_ | with_reducible refine K.tR ?_ | with_reducible refine K.bR ?_ | with_reducible refine K.gR ?_ | with_reducible refine K.r1 (by with_unfolding_all rfl) (by with_unfolding_all rfl) ?_)
      · have : ¬ x = y := by rw [heq]; exact fun hc => list_ne hm hm' (by simpa using h) hc.2.2.1
        simp [this, tupV, constV, V.wk, V.wks]
      · exact ⟨rfl, step2 hl2 hm hP (by simpa using h), (Weak.mk [some 0, some 1] _ _ _ U U U U (by (repeat' (first | exact trivial | refine And.intro ?_ ?_ | refine ⟨_, U, _, U, ?_⟩ | exact VLe.refl _)); done) (by (repeat' (first | exact trivial | refine And.intro ?_ ?_ | refine ⟨_, U, _, U, _, U, ?_⟩ | exact VLe.refl _)); done))⟩
    · intro hP2
      have hterms := list_eq hl2 hP2
      repeat' (first | ((with_reducible refine D.nil ?_); refine AX.nilL ?_) | ((with_reducible refine D.load ?_); refine L.ldb U U U U U U ?_) | ((with_reducible refine D.move ?_); refine L.mv U U U ?_) | ((with_reducible refine D.fieldAddr ?_); refine L.fab U U U U U ?_) | ((with_reducible refine D.call ?_); refine L.lnt U U U U ?_) | ((with_reducible refine D.aw ?_); first | refine K.sq (K.sq ?_) | refine AW.regL ?_) | with_reducible refine K.tN ?_)
      refine AW.range x.args.length (fun m => ∀ j (hj : j < x.args.length), j < m → x.args[j] = y.args[j]'(by omega))
        (fun m => ([(2, .ptr 0 0), (3, .ptr 1 0), (58, .s .fm x.args), (59, .i x.args.length), (60, .i m)], ⟨2, [(0, .var x.view), (1, .var y.view)]⟩))
        (by omega) (fun m => rfl) (fun m => rfl) U (by intro j hj h; omega) (Weak.mk [some 0, some 1] _ _ _ U U U U (by (repeat' (first | exact trivial | refine And.intro ?_ ?_ | refine ⟨_, U, _, U, ?_⟩ | exact VLe.refl _)); done) (by (repeat' (first | exact trivial | refine And.intro ?_ ?_ | refine ⟨_, U, _, U, _, U, ?_⟩ | exact VLe.refl _)); done)) ?_ ?_
      · intro m hm hP
        have hm' : m < y.args.length := by omega
        have hs2 := lsum_mem Fm.full (List.getElem_mem hm)
        repeat' (first | ((with_reducible refine D.nil ?_); first | refine AX.nilL ?_ | refine AX.nilD (by kernel_rfl) ?_) | ((with_reducible refine D.load ?_); first | refine L.ldb U U U U U U ?_ | refine L.lda U U U U U ?_) | ((with_reducible refine D.move ?_); refine L.mv U U U ?_) | ((with_reducible refine D.fieldAddr ?_); refine L.fab U U U U U ?_) | ((with_reducible refine D.assign ?_); refine L.asg U U U ?_) | ((with_reducible refine D.call ?_); refine L.c2 (ih _ _ ?_ ?_) U U U U ?_) | ((with_reducible refine D.alloc ?_); refine L.al U U U ?_) | ((with_reducible refine D.store ?_); refine L.st U U U U U U U U U ?_) | ((with_reducible refine D.indexAddr ?_); refine L.ixt _ U U U U U U U (by assumption) ?_) | ((with_reducible refine D.not ?_); refine L.nt U U U ?_) | ((with_reducible refine D.aw ?_); first | refine K.sq (AW.regL ?_) | refine K.sq (AW.regD mixed (by kernel_rfl) ?_) | refine AW.condS U (fun h => ?_) (fun h => ?_) | refine AW.skip ?_ | refine AW.ret ?_) | with_reducible refine K.tN ?_ | with_reducible refine K.bN ?_ | with_reducible refine K.tR ?_ | with_reducible refine K.bR ?_ | with_reducible refine K.gR ?_ | with_reducible refine K.r1 (by with_unfolding_all rfl) (by with_unfolding_all rfl) ?_ | ((with_reducible show @LE.le Nat _ _ _); omega) | ((with_reducible show @LT.lt Nat _ _ _); omega))
        · have : ¬ x = y := by rw [heq]; exact fun hc => list_ne hm hm' (by simpa using h) hc.2.2.2
          simp [this, tupV, constV, V.wk, V.wks]
        · exact ⟨rfl, step2 hl hm hP (by simpa using h), (Weak.mk [some 0, some 1] _ _ _ U U U U (by (repeat' (first | exact trivial | refine And.intro ?_ ?_ | refine ⟨_, U, _, U, ?_⟩ | exact VLe.refl _)); done) (by (repeat' (first | exact trivial | refine And.intro ?_ ?_ | refine ⟨_, U, _, U, _, U, ?_⟩ | exact VLe.refl _)); done))⟩
      · intro hP
        have : x = y := heq.2 ⟨h1, h2, hterms, list_eq hl hP⟩
        repeat' (first | ((with_reducible refine D.nil ?_); refine AX.nilL ?_) | ((with_reducible refine D.assign ?_); refine L.asg U U U ?_) | ((with_reducible refine D.aw ?_); first | refine K.sq (AW.regL ?_) | refine AW.ret ?_) | with_reducible refine K.tN ?_ | with_reducible refine K.r1 (by with_unfolding_all rfl) (by with_unfolding_all rfl) ?_)
        simp [this, tupV, constV, V.wk, V.wks]
theorem fsame_c (x y : Fm) (h : x.full < 1099511627776) : PC E 50 [.agg x.view, .agg y.view] (.bool (decide (x = y))) := by
  have h1 := sameForm_c _ x y (Nat.le_refl _) h
  refine AC.mk Tryz.func50 rfl rfl rfl rfl rfl (Nat.le_of_ble_eq_true rfl) ?_
  repeat' (first | ((with_reducible refine D.nil ?_); refine AX.nilL ?_) | ((with_reducible refine D.load ?_); refine L.ldb U U U U U U ?_) | ((with_reducible refine D.assign ?_); refine L.asg U U U ?_) | ((with_reducible refine D.call ?_); refine L.c2 (h1) U U U U ?_) | ((with_reducible refine D.box ?_); refine L.bx U U U U ?_) | ((with_reducible refine D.aw ?_); first | refine K.sq (AW.regL ?_) | refine AW.ret ?_) | with_reducible refine K.tN ?_ | with_reducible refine K.r1 (by with_unfolding_all rfl) (by with_unfolding_all rfl) ?_)
  simp [tupV, V.wk, V.wks, constV, Ty.view, Tm.view]
end Go.Ab
namespace Go.Ab
open Go Go.Proofs
set_option maxRecDepth 100000
set_option maxHeartbeats 4000000
set_option linter.all false
theorem rbelow_c (t : Tm) : PC E 109 [.agg t.view] (.i (up t.kind 0)) := by
  refine AC.mk Tryz.func109 rfl rfl rfl rfl rfl (Nat.le_of_ble_eq_true rfl) ?_
  repeat' (first | ((with_reducible refine D.nil ?_); refine AX.nilL ?_) | ((with_reducible refine D.load ?_); refine L.ldb U U U U U U ?_) | ((with_reducible refine D.fieldAddr ?_); refine L.fab U U U U U ?_) | ((with_reducible refine D.assign ?_); refine L.asg U U U ?_) | ((with_reducible refine D.bin ?_); refine L.bn U U U U U ?_) | ((with_reducible refine D.box ?_); refine L.bx U U U U ?_) | ((with_reducible refine D.aw ?_); first | refine K.sq (AW.regL ?_) | refine K.sq (K.sq ?_) | refine AW.regL ?_ | refine AW.condS U (fun h => ?_) (fun h => ?_) | refine AW.skip ?_ | refine AW.ret ?_) | with_reducible refine K.tN ?_ | with_reducible refine K.tR ?_ | with_reducible refine K.r1 (by with_unfolding_all rfl) (by with_unfolding_all rfl) ?_)
  · have e : up t.kind 0 = 1 := by simp only [beq_iff_eq] at h; rw [h]; rfl
    rw [e]; rfl
  · have e : up t.kind 0 = 0 := by simp only [beq_eq_false_iff_ne, ne_eq] at h; exact if_neg h
    rw [e]; rfl
theorem up_bd (k b : Int) : b ≤ up k b ∧ up k b ≤ b + 1 := by simp only [up]; split <;> omega
theorem up_plus (k b : Int) : b + up k 0 = up k b := by simp only [up]; split <;> omega
theorem rleast_c (most : Int) (h0 : 0 ≤ most) : ∀ (n : Nat) (t : Tm), t.full ≤ n → n < 549755813888 → t.shape = true → PC E 116 [.agg t.view, .i most] (.bool (leastT most t)) := by
  intro n
  induction n with
  | zero => intro t h; have := t.full_pos; omega
  | succ n ih =>
  intro t hsz hn hs
  have hsz' := Tm.full_eq t
  have hlen := lsum_len Tm.full Tm.full_pos t.args
  have he := leastT_eq h0 hs
  refine AC.mk Tryz.func116 rfl rfl rfl rfl rfl (Nat.le_of_ble_eq_true rfl) ?_
  repeat' (first | ((with_reducible refine D.nil ?_); refine AX.nilL ?_) | ((with_reducible refine D.load ?_); refine L.ldb U U U U U U ?_) | ((with_reducible refine D.move ?_); refine L.mv U U U ?_) | ((with_reducible refine D.fieldAddr ?_); refine L.fab U U U U U ?_) | ((with_reducible refine D.assign ?_); refine L.asg U U U ?_) | ((with_reducible refine D.bin ?_); refine L.bn U U U U U ?_) | ((with_reducible refine D.call ?_); refine L.lnt U U U U ?_) | ((with_reducible refine D.box ?_); refine L.bx U U U U ?_) | ((with_reducible refine D.aw ?_); first | refine K.sq (AW.regL ?_) | refine K.sq (K.sq ?_) | refine AW.regL ?_ | refine AW.condS U (fun h => ?_) (fun h => ?_) | refine AW.skip ?_ | refine AW.ret ?_) | with_reducible refine K.tN ?_ | with_reducible refine K.tR ?_ | with_reducible refine K.r1 (by with_unfolding_all rfl) (by with_unfolding_all rfl) ?_)
  · have h1 : ¬ t.index ≤ most := by simp at h; omega
    rw [he, decide_eq_false h1]; rfl
  have h1 : t.index ≤ most := by simp at h; omega
  rw [decide_eq_true h1, Bool.true_and] at he
  refine AW.range t.args.length (fun m => ∀ j (hj : j < t.args.length), j < m → leastT most t.args[j] = true)
    (fun m => ([(1, .i most), (2, .ptr 0 0), (12, .s .tm t.args), (13, .i t.args.length), (14, .i m)], ⟨1, [(0, .var t.view)]⟩))
    (by omega) (fun m => rfl) (fun m => rfl) U (fun j hj h => by omega) (Weak.mk [some 0] _ _ _ U U U U (by (repeat' (first | exact trivial | refine And.intro ?_ ?_ | refine ⟨_, U, _, U, ?_⟩ | exact VLe.refl _)); done) (by (repeat' (first | exact trivial | refine And.intro ?_ ?_ | refine ⟨_, U, _, U, _, U, ?_⟩ | exact VLe.refl _)); done)) ?_ ?_
  · intro m hm hP
    have hs2 := lsum_mem Tm.full (List.getElem_mem hm)
    have hc := ih t.args[m] (by omega) (by omega) (shape_args hs _ (List.getElem_mem hm))
    repeat' (first | ((with_reducible refine D.nil ?_); refine AX.nilL ?_) | ((with_reducible refine D.load ?_); first | refine L.ldb U U U U U U ?_ | refine L.lda U U U U U ?_) | ((with_reducible refine D.move ?_); refine L.mv U U U ?_) | ((with_reducible refine D.assign ?_); refine L.asg U U U ?_) | ((with_reducible refine D.call ?_); refine L.c2 (hc) U U U U ?_) | ((with_reducible refine D.alloc ?_); refine L.al U U U ?_) | ((with_reducible refine D.store ?_); refine L.st U U U U U U U U U ?_) | ((with_reducible refine D.indexAddr ?_); refine L.ixt _ U U U U U U U (by assumption) ?_) | ((with_reducible refine D.not ?_); refine L.nt U U U ?_) | ((with_reducible refine D.aw ?_); first | refine K.sq (AW.regL ?_) | refine AW.condS U (fun h => ?_) (fun h => ?_) | refine AW.skip ?_ | refine AW.ret ?_) | with_reducible refine K.tN ?_ | with_reducible refine K.bN ?_ | with_reducible refine K.tR ?_ | with_reducible refine K.bR ?_ | with_reducible refine K.gR ?_ | with_reducible refine K.r1 (by with_unfolding_all rfl) (by with_unfolding_all rfl) ?_)
    · have hx : leastT most t.args[m] = false := by simpa using h
      rw [he, all_not (leastT most) hm hx]; rfl
    · have hx : leastT most t.args[m] = true := by simpa using h
      exact ⟨rfl, all_step (p := fun t => leastT most t = true) hm hP hx, (Weak.mk [some 0] _ _ _ U U U U (by (repeat' (first | exact trivial | refine And.intro ?_ ?_ | refine ⟨_, U, _, U, ?_⟩ | exact VLe.refl _)); done) (by (repeat' (first | exact trivial | refine And.intro ?_ ?_ | refine ⟨_, U, _, U, _, U, ?_⟩ | exact VLe.refl _)); done))⟩
  · intro hP
    rw [he, all_of (leastT most) t.args fun j hj => hP j hj hj]
    repeat' (first | ((with_reducible refine D.nil ?_); refine AX.nilL ?_) | ((with_reducible refine D.assign ?_); refine L.asg U U U ?_) | ((with_reducible refine D.aw ?_); first | refine K.sq (AW.regL ?_) | refine AW.ret ?_) | with_reducible refine K.tN ?_ | with_reducible refine K.r1 (by with_unfolding_all rfl) (by with_unfolding_all rfl) ?_)
    rfl
theorem rhas_c : ∀ (n : Nat) (t : Tm) (at_ : Int), t.full ≤ n → n < 274877906944 → -274877906944 ≤ at_ → at_ + n < 549755813888 → t.shape = true → PC E 51 [.agg t.view, .i at_] (.bool (decide (timesT at_ t ≠ 0))) := by
  intro n
  induction n with
  | zero => intro t at_ h; have := t.full_pos; omega
  | succ n ih =>
  intro t at_ hsz hn h1 h2 hs
  have hsz' := Tm.full_eq t
  have hlen := lsum_len Tm.full Tm.full_pos t.args
  have he := timesT_eq at_ t
  have hup := up_bd t.kind at_
  have hpl := up_plus t.kind at_
  have hb := rbelow_c t
  by_cases hv : t.kind = 1 ∧ t.index = at_
  · rw [if_pos hv] at he
    rw [he]
    refine AC.mk Tryz.func51 rfl rfl rfl rfl rfl (Nat.le_of_ble_eq_true rfl) ?_
    repeat' (first | ((with_reducible refine D.nil ?_); refine AX.nilL ?_) | ((with_reducible refine D.load ?_); first | refine L.ldb U U U U U U ?_ | refine AX.sk U U ?_) | ((with_reducible refine D.move ?_); first | refine L.mv U U U ?_ | refine AX.sk U U ?_) | ((with_reducible refine D.fieldAddr ?_); first | refine L.fab U U U U U ?_ | refine AX.sk U U ?_ | ((fail_if_success refine AX.wt U ?_); refine AX.gs U U (fun _ => trivial) (fun h => ?_) (fun h => ?_))) | ((with_reducible refine D.assign ?_); refine L.asg U U U ?_) | ((with_reducible refine D.bin ?_); first | refine L.bn U U U U U ?_ | refine AX.sk U U ?_) | ((with_reducible refine D.call ?_); refine L.lnt U U U U ?_) | ((with_reducible refine D.box ?_); refine L.bx U U U U ?_) | ((with_reducible refine D.pick ?_); refine L.pk U U U U ?_) | ((with_reducible refine D.aw ?_); (fail_if_success with_reducible refine D.stopR (id := 4) ?_); (fail_if_success with_reducible refine D.stopS (id := 4) ?_); first | refine K.sq (AW.regL ?_) | refine K.sq (K.sq ?_) | refine AW.regL ?_ | refine AW.condF U ?_ | refine AW.condS U (fun h => ?_) (fun h => ?_) | refine AW.skip ?_ | refine AW.ret ?_) | with_reducible refine K.tN ?_ | with_reducible refine K.tR ?_ | with_reducible refine K.r1 (by with_unfolding_all rfl) (by with_unfolding_all rfl) ?_)
    all_goals first
      | rfl
      | (exfalso; simp [hv.1, hv.2] at *; done)
      | (exfalso; simp_all; done)
  rw [if_neg hv] at he
  refine AC.mk Tryz.func51 rfl rfl rfl rfl rfl (Nat.le_of_ble_eq_true rfl) ?_
  repeat' (first | ((with_reducible refine D.nil ?_); refine AX.nilL ?_) | ((with_reducible refine D.load ?_); first | refine L.ldb U U U U U U ?_ | refine AX.sk U U ?_) | ((with_reducible refine D.move ?_); first | refine L.mv U U U ?_ | refine AX.sk U U ?_) | ((with_reducible refine D.fieldAddr ?_); first | refine L.fab U U U U U ?_ | refine AX.sk U U ?_ | ((fail_if_success refine AX.wt U ?_); refine AX.gs U U (fun _ => trivial) (fun h => ?_) (fun h => ?_))) | ((with_reducible refine D.assign ?_); refine L.asg U U U ?_) | ((with_reducible refine D.bin ?_); first | refine L.bn U U U U U ?_ | refine AX.sk U U ?_) | ((with_reducible refine D.call ?_); refine L.lnt U U U U ?_) | ((with_reducible refine D.box ?_); refine L.bx U U U U ?_) | ((with_reducible refine D.pick ?_); refine L.pk U U U U ?_) | ((with_reducible refine D.aw ?_); first | refine K.sq (AW.regL ?_) | refine K.sq (K.sq ?_) | refine AW.regL ?_ | refine AW.condF U ?_ | refine AW.condS U (fun h => ?_) (fun h => ?_) | refine AW.skip ?_ | refine AW.ret ?_) | with_reducible refine K.tN ?_ | with_reducible refine K.tR ?_ | with_reducible refine K.r1 (by with_unfolding_all rfl) (by with_unfolding_all rfl) ?_)
  all_goals first
    | (exfalso; simp_all; done)
    | skip
  all_goals
    refine AW.range t.args.length (fun m => ∀ j (hj : j < t.args.length), j < m → timesT (up t.kind at_) t.args[j] = 0)
      (fun m => ([(1, .i at_), (2, .ptr 0 0), (17, .s .tm t.args), (18, .i t.args.length), (19, .i m)], ⟨1, [(0, .var t.view)]⟩))
      (by omega) (fun m => rfl) (fun m => rfl) U (fun j hj h => by omega) (Weak.mk [some 0] _ _ _ U U U U (by (repeat' (first | exact trivial | refine And.intro ?_ ?_ | refine ⟨_, U, _, U, ?_⟩ | exact VLe.refl _)); done) (by (repeat' (first | exact trivial | refine And.intro ?_ ?_ | refine ⟨_, U, _, U, _, U, ?_⟩ | exact VLe.refl _)); done)) ?_ ?_
    · intro m hm hP
      have hs2 := lsum_mem Tm.full (List.getElem_mem hm)
      have hc := ih t.args[m] (up t.kind at_) (by omega) (by omega) (by omega) (by omega) (shape_args hs _ (List.getElem_mem hm))
      rw [← hpl] at hc
      rw [← hpl] at hP he
      repeat' (first | ((with_reducible refine D.nil ?_); first | refine AX.nilL ?_ | refine AX.nilD (by kernel_rfl) ?_) | ((with_reducible refine D.load ?_); first | refine L.ldb U U U U U U ?_ | refine L.lda U U U U U ?_) | ((with_reducible refine D.move ?_); refine L.mv U U U ?_) | ((with_reducible refine D.assign ?_); refine L.asg U U U ?_) | ((with_reducible refine D.bin ?_); refine L.ad U U U U (by omega) ?_) | ((with_reducible refine D.call ?_); first | refine L.c2 (hb) U U U U ?_ | refine L.c2 (hc) U U U U ?_) | ((with_reducible refine D.alloc ?_); refine L.al U U U ?_) | ((with_reducible refine D.store ?_); refine L.st U U U U U U U U U ?_) | ((with_reducible refine D.indexAddr ?_); refine L.ixt _ U U U U U U U (by assumption) ?_) | ((with_reducible refine D.aw ?_); first | refine K.sq (AW.regL ?_) | refine K.sq (AW.regD mixed (by kernel_rfl) ?_) | refine AW.condS U (fun h => ?_) (fun h => ?_) | refine AW.skip ?_ | refine AW.ret ?_) | with_reducible refine K.tN ?_ | with_reducible refine K.bN ?_ | with_reducible refine K.tR ?_ | with_reducible refine K.bR ?_ | with_reducible refine K.gR ?_ | with_reducible refine K.r1 (by with_unfolding_all rfl) (by with_unfolding_all rfl) ?_)
      · have hx : timesT (at_ + up t.kind 0) t.args[m] ≠ 0 := by simpa using h
        rw [he, decide_eq_true (sum_pos hm hx)]; rfl
      · have hx : timesT (at_ + up t.kind 0) t.args[m] = 0 := by simpa using h
        exact ⟨rfl, by rw [← hpl]; exact all_step (p := fun t' => timesT (at_ + up t.kind 0) t' = 0) hm hP hx, (Weak.mk [some 0] _ _ _ U U U U (by (repeat' (first | exact trivial | refine And.intro ?_ ?_ | refine ⟨_, U, _, U, ?_⟩ | exact VLe.refl _)); done) (by (repeat' (first | exact trivial | refine And.intro ?_ ?_ | refine ⟨_, U, _, U, _, U, ?_⟩ | exact VLe.refl _)); done))⟩
    · intro hP
      rw [he, sum_zero fun j hj => hP j hj hj]
      repeat' (first | ((with_reducible refine D.nil ?_); refine AX.nilL ?_) | ((with_reducible refine D.assign ?_); refine L.asg U U U ?_) | ((with_reducible refine D.aw ?_); first | refine K.sq (AW.regL ?_) | refine AW.ret ?_) | with_reducible refine K.tN ?_ | with_reducible refine K.r1 (by with_unfolding_all rfl) (by with_unfolding_all rfl) ?_)
      rfl
theorem rtimes_c : ∀ (n : Nat) (t : Tm) (at_ : Int), t.full ≤ n → n < 274877906944 → -274877906944 ≤ at_ → at_ + n < 549755813888 → t.shape = true → PC E 149 [.agg t.view, .i at_] (.i (timesT at_ t)) := by
  intro n
  induction n with
  | zero => intro t at_ h; have := t.full_pos; omega
  | succ n ih =>
  intro t at_ hsz hn h1 h2 hs
  have hsz' := Tm.full_eq t
  have hlen := lsum_len Tm.full Tm.full_pos t.args
  have he := timesT_eq at_ t
  have hup := up_bd t.kind at_
  have hpl := up_plus t.kind at_
  have hb := rbelow_c t
  by_cases hv : t.kind = 1 ∧ t.index = at_
  · rw [if_pos hv] at he
    rw [he]
    have ha := var_args hs hv.1
    obtain ⟨k, i, th, xs⟩ := t
    simp only [Tm.args_mk] at ha
    subst ha
    obtain ⟨hv1, hv2⟩ := hv
    simp only [Tm.kind_mk, Tm.index_mk] at hv1 hv2
    subst hv1; subst hv2
    refine AC.mk Tryz.func149 rfl rfl rfl rfl rfl (Nat.le_of_ble_eq_true rfl) ?_
    repeat' (first | ((with_reducible refine D.nil ?_); refine AX.nilL ?_) | ((with_reducible refine D.load ?_); refine L.ldb U U U U U U ?_) | ((with_reducible refine D.move ?_); refine L.mv U U U ?_) | ((with_reducible refine D.fieldAddr ?_); refine L.fab U U U U U ?_) | ((with_reducible refine D.assign ?_); refine L.asg U U U ?_) | ((with_reducible refine D.bin ?_); first | refine L.ad U U U U (by omega) ?_ | refine L.bn U U U U U ?_) | ((with_reducible refine D.call ?_); refine L.lnt U U U U ?_) | ((with_reducible refine D.box ?_); refine L.bx U U U U ?_) | ((with_reducible refine D.pick ?_); refine L.pk U U U U ?_) | ((with_reducible refine D.aw ?_); first | refine K.sq (AW.regL ?_) | refine K.sq (K.sq ?_) | refine AW.regL ?_ | refine AW.condS U (fun h => ?_) (fun h => ?_) | refine AW.skip ?_) | with_reducible refine K.tN ?_)
    all_goals first
      | (exfalso; simp at h; done)
      | skip
    all_goals
      refine AW.range 0 (fun m => True) (fun m => ([(1, .i i), (2, .ptr 0 0), (5, .i 1), (20, .s .tm []), (21, .i 0), (22, .i m)], ⟨1, [(0, .var (Tm.mk 1 i th []).view)]⟩))
        (by omega) (fun m => rfl) (fun m => rfl) U trivial (Weak.mk [some 0] _ _ _ U U U U (by (repeat' (first | exact trivial | refine And.intro ?_ ?_ | refine ⟨_, U, _, U, ?_⟩ | exact VLe.refl _)); done) (by (repeat' (first | exact trivial | refine And.intro ?_ ?_ | refine ⟨_, U, _, U, _, U, ?_⟩ | exact VLe.refl _)); done)) ?_ ?_
      · intro m hm; omega
      · intro _
        repeat' (first | ((with_reducible refine D.nil ?_); refine AX.nilL ?_) | ((with_reducible refine D.move ?_); refine L.mv U U U ?_) | ((with_reducible refine D.assign ?_); refine L.asg U U U ?_) | ((with_reducible refine D.aw ?_); first | refine K.sq (AW.regL ?_) | refine AW.ret ?_) | with_reducible refine K.tN ?_ | with_reducible refine K.r1 (by with_unfolding_all rfl) (by with_unfolding_all rfl) ?_)
        rfl
  rw [if_neg hv] at he
  refine AC.mk Tryz.func149 rfl rfl rfl rfl rfl (Nat.le_of_ble_eq_true rfl) ?_
  repeat' (first | ((with_reducible refine D.nil ?_); refine AX.nilL ?_) | ((with_reducible refine D.load ?_); first | refine L.ldb U U U U U U ?_ | refine AX.sk U U ?_) | ((with_reducible refine D.move ?_); first | refine L.mv U U U ?_ | refine AX.sk U U ?_) | ((with_reducible refine D.fieldAddr ?_); first | refine L.fab U U U U U ?_ | refine AX.sk U U ?_ | ((fail_if_success refine AX.wt U ?_); refine AX.gs U U (fun _ => trivial) (fun h => ?_) (fun h => ?_))) | ((with_reducible refine D.assign ?_); refine L.asg U U U ?_) | ((with_reducible refine D.bin ?_); first | refine L.ad U U U U (by omega) ?_ | refine L.bn U U U U U ?_ | refine AX.sk U U ?_) | ((with_reducible refine D.call ?_); refine L.lnt U U U U ?_) | ((with_reducible refine D.box ?_); refine L.bx U U U U ?_) | ((with_reducible refine D.pick ?_); refine L.pk U U U U ?_) | ((with_reducible refine D.aw ?_); first | refine K.sq (AW.regL ?_) | refine K.sq (K.sq ?_) | refine AW.regL ?_ | refine AW.condF U ?_ | refine AW.condS U (fun h => ?_) (fun h => ?_) | refine AW.skip ?_) | with_reducible refine K.tN ?_)
  all_goals first
    | (exfalso; simp_all; done)
    | skip
  all_goals
    refine AW.range t.args.length (fun m => True)
      (fun m => ([(1, .i at_), (2, .ptr 0 0), (5, .i (((t.args.take m).map (timesT (up t.kind at_))).sum : Nat)), (20, .s .tm t.args), (21, .i t.args.length), (22, .i m)], ⟨1, [(0, .var t.view)]⟩))
      (by omega) (fun m => rfl) (fun m => rfl) U trivial (Weak.mk [some 0] _ _ _ U U U U (by (repeat' (first | exact trivial | refine And.intro ?_ ?_ | refine ⟨_, U, _, U, ?_⟩ | exact VLe.refl _)); done) (by (repeat' (first | exact trivial | refine And.intro ?_ ?_ | refine ⟨_, U, _, U, _, U, ?_⟩ | exact VLe.refl _)); done)) ?_ ?_
    · intro m hm _
      have hs1 := lsum_take (timesT (up t.kind at_)) t.args m hm
      have hs2 := lsum_mem Tm.full (List.getElem_mem hm)
      have hs3 : ((t.args.take m).map (timesT (up t.kind at_))).sum ≤ (t.args.map Tm.full).sum := by
        have a1 := lsum_take_le Tm.full t.args m
        have a2 := lsum_le (f := timesT (up t.kind at_)) (g := Tm.full) (t.args.take m) fun x _ => Nat.le_trans (timesT_le x _) x.size_le_full
        omega
      have hs4 := timesT_le t.args[m] (up t.kind at_)
      have hs5 := t.args[m].size_le_full
      have hc := ih t.args[m] (up t.kind at_) (by omega) (by omega) (by omega) (by omega) (shape_args hs _ (List.getElem_mem hm))
      rw [← hpl] at hc hs1 hs3 hs4
      simp only [← hpl]
      repeat' (first | ((with_reducible refine D.nil ?_); first | refine AX.nilL ?_ | refine AX.nilD (by kernel_rfl) ?_) | ((with_reducible refine D.load ?_); first | refine L.ldb U U U U U U ?_ | refine L.lda U U U U U ?_) | ((with_reducible refine D.move ?_); refine L.mv U U U ?_) | ((with_reducible refine D.assign ?_); refine L.asg U U U ?_) | ((with_reducible refine D.bin ?_); refine L.ad U U U U (by omega) ?_) | ((with_reducible refine D.call ?_); first | refine L.c2 (hb) U U U U ?_ | refine L.c2 (hc) U U U U ?_) | ((with_reducible refine D.alloc ?_); refine L.al U U U ?_) | ((with_reducible refine D.store ?_); refine L.st U U U U U U U U U ?_) | ((with_reducible refine D.indexAddr ?_); refine L.ixt _ U U U U U U U (by assumption) ?_) | ((with_reducible refine D.aw ?_); first | refine K.sq (AW.regL ?_) | refine AW.regD mixed (by kernel_rfl) ?_) | with_reducible refine K.tN ?_ | with_reducible refine K.bN ?_)
      refine ⟨rfl, trivial, ?_⟩
      simp only [hs1]
      exact (Weak.mk [some 0] _ _ _ U U U U (by (repeat' (first | exact trivial | refine And.intro ?_ ?_ | refine ⟨_, U, _, U, ?_⟩ | exact VLe.refl _)); done) (by (repeat' (first | exact trivial | refine And.intro ?_ ?_ | refine ⟨_, U, _, U, _, U, ?_⟩ | exact VLe.refl _)); done))
    · intro _
      repeat' (first | ((with_reducible refine D.nil ?_); refine AX.nilL ?_) | ((with_reducible refine D.move ?_); refine L.mv U U U ?_) | ((with_reducible refine D.assign ?_); refine L.asg U U U ?_) | ((with_reducible refine D.aw ?_); first | refine K.sq (AW.regL ?_) | refine AW.ret ?_) | with_reducible refine K.tN ?_ | with_reducible refine K.r1 (by with_unfolding_all rfl) (by with_unfolding_all rfl) ?_)
      rw [he]
      simp [tupV, V.wk, V.wks, constV]
theorem rup_c (by_ : Int) (hby : -549755813888 ≤ by_ ∧ by_ ≤ 549755813888) : ∀ (n : Nat) (t : Tm) (fr : Int), t.full ≤ n → n < 274877906944 → -274877906944 ≤ fr → fr + n < 549755813888 → t.shape = true → (∀ p ∈ t.vars 0, 0 ≤ p.1 ∧ p.1 < 549755813888) →
    PC E 117 [.agg t.view, .i fr, .i by_] (.agg (t.re (liftG fr by_) 0).view) := by
  intro n
  induction n with
  | zero => intro t fr h; have := t.full_pos; omega
  | succ n ih =>
  intro t fr hsz hn h1 h2 hs hix
  have hsz' := Tm.full_eq t
  have hlen := lsum_len Tm.full Tm.full_pos t.args
  have hup := up_bd t.kind fr
  have hpl := up_plus t.kind fr
  have hb := rbelow_c t
  by_cases hv : t.kind = 1
  · have ht := var_vT hs hv
    have hi := hix (t.index, 0) (by rw [vars_var hs hv]; simp)
    rw [ht]
    generalize t.index = i at hi
    simp only at hi
    rw [re_vT, liftG_eq]
    have hvi : (vT i).index = i := rfl
    refine AC.mk Tryz.func117 rfl rfl rfl rfl rfl (Nat.le_of_ble_eq_true rfl) ?_
    repeat' (first | ((with_reducible refine D.nil ?_); refine AX.nilL ?_) | ((with_reducible refine D.load ?_); refine L.ldb U U U U U U ?_) | ((with_reducible refine D.move ?_); refine L.mv U U U ?_) | ((with_reducible refine D.fieldAddr ?_); refine L.fab U U U U U ?_) | ((with_reducible refine D.bin ?_); first | refine L.ad U U U U (by omega) ?_ | refine L.bn U U U U U ?_) | ((with_reducible refine D.call ?_); refine L.lnt U U U U ?_) | ((with_reducible refine D.box ?_); refine L.bx U U U U ?_) | ((with_reducible refine D.alloc ?_); refine L.al U U U ?_) | ((with_reducible refine D.store ?_); refine L.st U U U U U U U U U ?_) | ((with_reducible refine D.pick ?_); refine L.pk U U U U ?_) | ((with_reducible refine D.ax ?_); refine L.bd U U U U U ?_) | ((with_reducible refine D.aw ?_); first | refine K.sq (AW.regL ?_) | refine K.sq (K.sq ?_) | refine AW.regL ?_ | refine AW.condS U (fun h => ?_) (fun h => ?_) | refine AW.skip ?_) | with_reducible refine K.tN ?_)
    all_goals first
      | (exfalso; simp at h; done)
      | skip
    · have h3 : i - 0 ≥ fr := by simp at h; omega
      rw [if_pos h3]
      refine AW.range 0 (fun m => True) (fun m => ([(1, .i fr), (2, .i by_), (3, .ptr 0 0), (6, .ptr 1 0), (7, .ptr 2 0), (32, .s .tm []), (33, .i 0), (34, .i m)], ⟨3, [(0, .var (vT i).view), (1, .var [.i 0, .i 0, .i 0, .slice .nil (.t .ty []), .slice .nil (.t .tm [])]), (2, .var [.i 1, .i (i + by_), .i 0, .s .ty [], .slice .nil (.t .tm [])])]⟩))
        (by omega) (fun m => rfl) (fun m => rfl) U trivial (Weak.mk [some 0, some 1, some 2] _ _ _ U U U U (by (repeat' (first | exact trivial | refine And.intro ?_ ?_ | refine ⟨_, U, _, U, ?_⟩ | exact VLe.refl _)); done) (by (repeat' (first | exact trivial | refine And.intro ?_ ?_ | refine ⟨_, U, _, U, _, U, ?_⟩ | exact VLe.refl _)); done)) ?_ ?_
      · intro m hm; omega
      · intro _
        repeat' (first | ((with_reducible refine D.nil ?_); refine AX.nilL ?_) | ((with_reducible refine D.load ?_); refine L.ldb U U U U U U ?_) | ((with_reducible refine D.store ?_); refine L.st U U U U U U U U U ?_) | ((with_reducible refine D.aw ?_); first | refine K.sq (AW.regL ?_) | refine AW.ret ?_) | with_reducible refine K.tN ?_ | with_reducible refine K.r1 (by with_unfolding_all rfl) (by with_unfolding_all rfl) ?_)
        rfl
    · have h3 : ¬ i - 0 ≥ fr := by simp at h; omega
      rw [if_neg h3]
      refine AW.range 0 (fun m => True) (fun m => ([(1, .i fr), (2, .i by_), (3, .ptr 0 0), (6, .ptr 1 0), (7, .ptr 2 0), (32, .s .tm []), (33, .i 0), (34, .i m)], ⟨3, [(0, .var (vT i).view), (1, .var [.i 0, .i 0, .i 0, .slice .nil (.t .ty []), .slice .nil (.t .tm [])]), (2, .var [.i 1, .i i, .i 0, .s .ty [], .slice .nil (.t .tm [])])]⟩))
        (by omega) (fun m => rfl) (fun m => rfl) U trivial (Weak.mk [some 0, some 1, some 2] _ _ _ U U U U (by (repeat' (first | exact trivial | refine And.intro ?_ ?_ | refine ⟨_, U, _, U, ?_⟩ | exact VLe.refl _)); done) (by (repeat' (first | exact trivial | refine And.intro ?_ ?_ | refine ⟨_, U, _, U, _, U, ?_⟩ | exact VLe.refl _)); done)) ?_ ?_
      · intro m hm; omega
      · intro _
        repeat' (first | ((with_reducible refine D.nil ?_); refine AX.nilL ?_) | ((with_reducible refine D.load ?_); refine L.ldb U U U U U U ?_) | ((with_reducible refine D.store ?_); refine L.st U U U U U U U U U ?_) | ((with_reducible refine D.aw ?_); first | refine K.sq (AW.regL ?_) | refine AW.ret ?_) | with_reducible refine K.tN ?_ | with_reducible refine K.r1 (by with_unfolding_all rfl) (by with_unfolding_all rfl) ?_)
        rfl
  have he := lift_node (fr := fr) (by_ := by_) hv
  refine AC.mk Tryz.func117 rfl rfl rfl rfl rfl (Nat.le_of_ble_eq_true rfl) ?_
  repeat' (first | ((with_reducible refine D.nil ?_); refine AX.nilL ?_) | ((with_reducible refine D.load ?_); first | refine L.ldb U U U U U U ?_ | refine AX.sk U U ?_) | ((with_reducible refine D.move ?_); first | refine L.mv U U U ?_ | refine AX.sk U U ?_) | ((with_reducible refine D.fieldAddr ?_); first | refine L.fab U U U U U ?_ | refine AX.sk U U ?_ | ((fail_if_success refine AX.wt U ?_); refine AX.gs U U (fun _ => trivial) (fun h => ?_) (fun h => ?_))) | ((with_reducible refine D.bin ?_); first | refine L.bn U U U U U ?_ | refine AX.sk U U ?_) | ((with_reducible refine D.call ?_); refine L.lnt U U U U ?_) | ((with_reducible refine D.box ?_); refine L.bx U U U U ?_) | ((with_reducible refine D.alloc ?_); refine L.al U U U ?_) | ((with_reducible refine D.store ?_); refine L.st U U U U U U U U U ?_) | ((with_reducible refine D.pick ?_); refine L.pk U U U U ?_) | ((with_reducible refine D.ax ?_); refine L.bd U U U U U ?_) | ((with_reducible refine D.aw ?_); first | refine K.sq (AW.regL ?_) | refine K.sq (K.sq ?_) | refine AW.regL ?_ | refine AW.condF U ?_ | refine AW.condS U (fun h => ?_) (fun h => ?_) | refine AW.skip ?_) | with_reducible refine K.tN ?_)
  all_goals first
    | (exfalso; simp_all; done)
    | skip
  all_goals
    refine AW.range t.args.length (fun m => True) (fun m => ([(1, .i fr), (2, .i by_), (3, .ptr 0 0), (6, .ptr 1 0), (7, .ptr 2 0), (32, .s .tm t.args), (33, .i t.args.length), (34, .i m)], ⟨4, [(0, .var t.view), (1, .var [.i 0, .i 0, .i 0, .slice .nil (.t .ty []), .slice .nil (.t .tm [])]), (2, .var [.i t.kind, .i t.index, .i t.ty.kind, .s .ty t.ty.args, .slice (.own 3) (.t .tm ((t.args.take m).map fun x => x.re (liftG (up t.kind fr) by_) 0))]), (3, .row)]⟩))
      (by omega) (fun m => rfl) (fun m => rfl) U trivial (Weak.mk [some 0, some 1, some 2, none] _ _ _ U U U U (by (repeat' (first | exact trivial | refine And.intro ?_ ?_ | refine ⟨_, U, _, U, ?_⟩ | exact VLe.refl _)); done) (by (repeat' (first | exact trivial | exact Or.inl U | refine And.intro ?_ ?_ | refine ⟨_, U, _, U, _, U, ?_⟩ | exact VLe.refl _)); done)) ?_ ?_
    · intro m hm _
      have hs2 := lsum_mem Tm.full (List.getElem_mem hm)
      have hc := ih t.args[m] (up t.kind fr) (by omega) (by omega) (by omega) (by omega) (shape_args hs _ (List.getElem_mem hm)) (fun p hp => by
        obtain ⟨q, hq, hqe⟩ := vars_idx (b' := up t.kind 0) p hp
        have := hix q (mem_vars hv (List.getElem_mem hm) hq)
        rw [← hqe]; exact this)
      rw [← hpl] at hc
      simp only [← hpl]
      repeat' (first | ((with_reducible refine D.nil ?_); first | refine AX.nilL ?_ | refine AX.nilD (by kernel_rfl) ?_) | ((with_reducible refine D.load ?_); first | refine L.ldb U U U U U U ?_ | refine L.lda U U U U U ?_) | ((with_reducible refine D.move ?_); refine L.mv U U U ?_) | ((with_reducible refine D.fieldAddr ?_); refine L.fab U U U U U ?_) | ((with_reducible refine D.bin ?_); refine L.ad U U U U (by omega) ?_) | ((with_reducible refine D.call ?_); first | refine L.apt U U U U U U (by first | exact trivial | exact ⟨rfl, trivial⟩) U U (by first | omega | (simp; omega)) ?_ | refine L.c2 (hb) U U U U ?_ | refine L.c2 (hc) U U U U ?_) | ((with_reducible refine D.alloc ?_); refine L.al U U U ?_) | ((with_reducible refine D.store ?_); refine L.st U U U U U U U U U ?_) | ((with_reducible refine D.indexAddr ?_); refine L.ixt _ U U U U U U U (by assumption) ?_) | ((with_reducible refine D.ax ?_); refine L.bs1 U U U U U (EC.fold_of U) U U ?_) | ((with_reducible refine D.aw ?_); first | refine K.sq (AW.regL ?_) | refine AW.regD mixed (by kernel_rfl) ?_) | with_reducible refine K.tN ?_ | with_reducible refine K.bN ?_)
      exact ⟨rfl, trivial, (Weak.mk [some 0, some 1, some 2, some 5] _ _ _ U U U U (by (repeat' (first | exact trivial | refine And.intro ?_ ?_ | refine ⟨_, U, _, U, ?_⟩ | exact VLe.refl _)); done) (by (repeat' (first | exact trivial | exact Or.inr ⟨_, U, rfl⟩ | refine And.intro ?_ ?_ | refine ⟨_, U, _, U, _, U, ?_⟩ | exact VLe.refl _ | exact VLe.of_eq (by simp [Sto.upd, map_take _ _ _ hm]))); done))⟩
    · intro _
      simp only [List.take_length]
      repeat' (first | ((with_reducible refine D.nil ?_); refine AX.nilL ?_) | ((with_reducible refine D.load ?_); refine L.ldb U U U U U U ?_) | ((with_reducible refine D.store ?_); refine L.st U U U U U U U U U ?_) | ((with_reducible refine D.aw ?_); first | refine K.sq (AW.regL ?_) | refine AW.ret ?_) | with_reducible refine K.tN ?_ | with_reducible refine K.r1 (by with_unfolding_all rfl) (by with_unfolding_all rfl) ?_)
      rw [he]
      simp [tupV, V.wk, V.wks, constV, Ty.view, Tm.view]
end Go.Ab
namespace Go.Ab
open Go Go.Proofs
set_option maxRecDepth 100000
set_option maxHeartbeats 4000000
set_option linter.all false
theorem rquant_c (k : Int) : PC E 110 [.i k] (.bool (quantK k)) := by
  have e : quantK k = decide (k = 4 ∨ k = 5 ∨ k = 6 ∨ k = 7) := by rw [Bool.eq_iff_iff, quantK_iff, decide_eq_true_iff]; omega
  rw [e]
  refine AC.mk Tryz.func110 rfl rfl rfl rfl rfl (Nat.le_of_ble_eq_true rfl) ?_
  repeat' (first | ((with_reducible refine D.nil ?_); refine AX.nilL ?_) | ((with_reducible refine D.move ?_); first | refine L.mv U U U ?_ | refine AX.sk U U ?_ | ((fail_if_success refine AX.wt U ?_); refine AX.gs U U (fun _ => trivial) (fun h => ?_) (fun h => ?_))) | ((with_reducible refine D.assign ?_); refine L.asg U U U ?_) | ((with_reducible refine D.bin ?_); first | refine L.bn U U U U U ?_ | refine AX.sk U U ?_) | ((with_reducible refine D.pick ?_); refine L.pk U U U U ?_) | ((with_reducible refine D.aw ?_); first | refine K.sq (AW.regL ?_) | refine AW.ret ?_) | with_reducible refine K.tN ?_ | with_reducible refine K.r1 (by with_unfolding_all rfl) (by with_unfolding_all rfl) ?_)
  all_goals (simp_all [tupV, V.wk, V.wks, constV]; try (first | omega | (rw [Bool.eq_iff_iff]; simp)))
theorem rfbelow_c (f : Fm) : PC E 52 [.agg f.view] (.i (upF f.kind 0)) := by
  have h1 := rquant_c f.kind
  cases hq : quantK f.kind with
  | true =>
    have e : upF f.kind 0 = 1 := by simp [upF, hq]
    rw [hq] at h1
    rw [e]
    refine AC.mk Tryz.func52 rfl rfl rfl rfl rfl (Nat.le_of_ble_eq_true rfl) ?_
    repeat' (first | ((with_reducible refine D.nil ?_); refine AX.nilL ?_) | ((with_reducible refine D.load ?_); refine L.ldb U U U U U U ?_) | ((with_reducible refine D.fieldAddr ?_); refine L.fab U U U U U ?_) | ((with_reducible refine D.assign ?_); refine L.asg U U U ?_) | ((with_reducible refine D.call ?_); refine L.c2 (h1) U U U U ?_) | ((with_reducible refine D.box ?_); refine L.bx U U U U ?_) | ((with_reducible refine D.aw ?_); first | refine K.sq (AW.regL ?_) | refine K.sq (K.sq ?_) | refine AW.regL ?_ | refine AW.condT U ?_ | refine AW.ret ?_) | with_reducible refine K.tN ?_ | with_reducible refine K.tR ?_ | with_reducible refine K.r1 (by with_unfolding_all rfl) (by with_unfolding_all rfl) ?_)
    rfl
  | false =>
    have e : upF f.kind 0 = 0 := by simp [upF, hq]
    rw [hq] at h1
    rw [e]
    refine AC.mk Tryz.func52 rfl rfl rfl rfl rfl (Nat.le_of_ble_eq_true rfl) ?_
    repeat' (first | ((with_reducible refine D.nil ?_); refine AX.nilL ?_) | ((with_reducible refine D.load ?_); refine L.ldb U U U U U U ?_) | ((with_reducible refine D.fieldAddr ?_); refine L.fab U U U U U ?_) | ((with_reducible refine D.assign ?_); refine L.asg U U U ?_) | ((with_reducible refine D.call ?_); refine L.c2 (h1) U U U U ?_) | ((with_reducible refine D.box ?_); refine L.bx U U U U ?_) | ((with_reducible refine D.aw ?_); first | refine K.sq (AW.regL ?_) | refine K.sq (K.sq ?_) | refine AW.regL ?_ | refine AW.condF U ?_ | refine AW.skip ?_ | refine AW.ret ?_) | with_reducible refine K.tN ?_ | with_reducible refine K.r1 (by with_unfolding_all rfl) (by with_unfolding_all rfl) ?_)
    rfl
theorem upF_plus (k b : Int) : b + upF k 0 = upF k b := by simp only [upF]; split <;> omega
theorem tyok_err (t : Ty) : t.ok = (t.err == 0) := Ty.ok_err t
theorem fshapeEq {f : Fm} (hk : f.kind = 1) : f.shape = (decide (f.args.length = 0) && f.ty.isNo && decide (f.terms.length = 2) && f.terms.all Tm.shape) := by
  rw [Fm.shape_eq]
  simp only [Fm.head, hk, if_true]
  by_cases h : f.args.length = 0
  · have ha : f.args = [] := List.length_eq_zero_iff.1 h
    rw [ha]
    cases f.ty.isNo <;> simp
    rw [Bool.eq_iff_iff]; simp
  · simp [h]
theorem fshapeTwo {f : Fm} (hk : f.kind = 2 ∨ f.kind = 3) : f.shape = (decide (f.terms.length = 0) && f.ty.isNo && decide (f.args.length = 2) && f.args.all Fm.shape) := by
  rw [Fm.shape_eq]
  have h1 : ¬ f.kind = 1 := by omega
  simp only [Fm.head, if_neg h1, if_pos hk]
  by_cases h : f.terms.length = 0
  · have ha : f.terms = [] := List.length_eq_zero_iff.1 h
    rw [ha]
    cases f.ty.isNo <;> simp
    rw [Bool.eq_iff_iff]; simp
  · simp [h]
theorem fshapeQu {f : Fm} (hk : quantK f.kind = true) : f.shape = (decide (f.terms.length = 0) && f.ty.ok && decide (f.args.length = 1) && f.args.all Fm.shape) := by
  rw [Fm.shape_eq]
  rw [quantK_iff] at hk
  have h1 : ¬ f.kind = 1 := by omega
  have h2 : ¬ (f.kind = 2 ∨ f.kind = 3) := by omega
  have h3 : f.kind = 4 ∨ f.kind = 5 ∨ f.kind = 6 ∨ f.kind = 7 := by omega
  simp only [Fm.head, if_neg h1, if_neg h2, if_pos h3]
  by_cases h : f.terms.length = 0
  · have ha : f.terms = [] := List.length_eq_zero_iff.1 h
    rw [ha]
    cases f.ty.ok <;> simp
    rw [Bool.eq_iff_iff]; simp
  · simp [h]
theorem fshapeNo {f : Fm} (h1 : f.kind ≠ 1) (h2 : ¬ (f.kind = 2 ∨ f.kind = 3)) (h3 : quantK f.kind = false) : f.shape = false := by
  rw [Fm.shape_eq]
  have h4 : ¬ (f.kind = 4 ∨ f.kind = 5 ∨ f.kind = 6 ∨ f.kind = 7) := by
    intro hc
    have : quantK f.kind = true := by rw [quantK_iff]; omega
    rw [h3] at this; cases this
  simp only [Fm.head, if_neg h1, if_neg h2, if_neg h4, Bool.false_and]
theorem fshapeR_c : ∀ (n : Nat) (f : Fm), f.full ≤ n → n < 549755813888 → PC E 114 [.agg f.view] (.bool f.shape) := by
  intro n
  induction n with
  | zero => intro f h; have := f.full_pos; omega
  | succ n ih =>
  intro f hsz hn
  have hsz' := f.full_eq
  have hlen := lsum_len Fm.full Fm.full_pos f.args
  have hlen2 := lsum_len Tm.full Tm.full_pos f.terms
  have hz := zeroTy_c f.ty
  have hty := checkTyR_c f.ty (by omega)
  have hq := rquant_c f.kind
  have ht : ∀ x ∈ f.terms, PC E 127 [.agg x.view] (.bool x.shape) := fun x hx => shapeTm_c _ x (Nat.le_refl _) (by have := lsum_mem Tm.full hx; omega)
  have ha : ∀ x ∈ f.args, PC E 114 [.agg x.view] (.bool x.shape) := fun x hx => ih x (by have := lsum_mem Fm.full hx; omega) (by omega)
  clear ih
  by_cases k1 : f.kind = 1
  · have e := fshapeEq k1
    obtain ⟨k, ty, ts, fs⟩ := f
    simp only [Fm.kind_mk, Fm.ty_mk, Fm.terms_mk, Fm.args_mk] at *
    subst k1
    by_cases hl : ts.length = 2
    · obtain ⟨a, b, rfl⟩ := len_2 hl
      have t1 := ht a (by simp)
      have t2 := ht b (by simp)
      rw [e]
      refine AC.mk Tryz.func114 rfl rfl rfl rfl rfl (Nat.le_of_ble_eq_true rfl) ?_
      repeat' (first | ((with_reducible refine D.nil ?_); refine AX.nilL ?_) | ((with_reducible refine D.load ?_); first | refine L.ldb U U U U U U ?_ | refine L.lda U U U U U ?_ | refine AX.sk U U ?_) | ((with_reducible refine D.move ?_); refine L.mv U U U ?_) | ((with_reducible refine D.fieldAddr ?_); first | refine L.fab U U U U U ?_ | refine AX.sk U U ?_ | ((fail_if_success refine AX.wt U ?_); refine AX.gs U U (fun _ => trivial) (fun h => ?_) (fun h => ?_))) | ((with_reducible refine D.assign ?_); refine L.asg U U U ?_) | ((with_reducible refine D.bin ?_); first | refine L.bn U U U U U ?_ | refine AX.sk U U ?_) | ((with_reducible refine D.call ?_); first | refine L.lnt U U U U ?_ | refine L.c2 (hz) U U U U ?_ | refine L.c2 (t1) U U U U ?_ | refine L.c2 (t2) U U U U ?_ | refine AX.sk U U ?_) | ((with_reducible refine D.box ?_); refine L.bx U U U U ?_) | ((with_reducible refine D.indexAddr ?_); first | refine L.ixt _ U U U U U U U (by (simp; done)) ?_ | refine AX.sk U U ?_) | ((with_reducible refine D.pick ?_); refine L.pk U U U U ?_) | ((with_reducible refine D.aw ?_); first | ((with_reducible refine D.sblk ?_); refine K.sq (AW.block ?_)) | refine K.sq (AW.regL ?_) | refine AW.condT U ?_ | refine AW.ret ?_) | with_reducible refine K.tN ?_ | with_reducible refine K.tR ?_ | with_reducible refine K.bR ?_ | with_reducible refine K.r1 (by with_unfolding_all rfl) (by with_unfolding_all rfl) ?_)
      all_goals (simp at *; simp_all [tupV, V.wk, V.wks, constV]; done)
    · have e2 : (Fm.mk 1 ty ts fs).shape = false := by rw [e]; simp [hl]
      rw [e2]
      refine AC.mk Tryz.func114 rfl rfl rfl rfl rfl (Nat.le_of_ble_eq_true rfl) ?_
      repeat' (first | ((with_reducible refine D.nil ?_); refine AX.nilL ?_) | ((with_reducible refine D.load ?_); first | refine L.ldb U U U U U U ?_ | refine L.lda U U U U U ?_ | refine AX.sk U U ?_) | ((with_reducible refine D.move ?_); refine L.mv U U U ?_) | ((with_reducible refine D.fieldAddr ?_); first | refine L.fab U U U U U ?_ | refine AX.sk U U ?_ | ((fail_if_success refine AX.wt U ?_); refine AX.gs U U (fun _ => trivial) (fun h => ?_) (fun h => ?_))) | ((with_reducible refine D.assign ?_); refine L.asg U U U ?_) | ((with_reducible refine D.bin ?_); first | refine L.bn U U U U U ?_ | refine AX.sk U U ?_) | ((with_reducible refine D.call ?_); first | refine L.lnt U U U U ?_ | refine L.c2 (hz) U U U U ?_ | refine AX.sk U U ?_) | ((with_reducible refine D.box ?_); refine L.bx U U U U ?_) | ((with_reducible refine D.indexAddr ?_); first | refine L.ixt _ U U U U U U U (by (simp at *; omega)) ?_ | refine AX.sk U U ?_) | ((with_reducible refine D.pick ?_); refine L.pk U U U U ?_) | ((with_reducible refine D.aw ?_); first | ((with_reducible refine D.sblk ?_); refine K.sq (AW.block ?_)) | refine K.sq (AW.regL ?_) | refine AW.condT U ?_ | refine AW.ret ?_) | with_reducible refine K.tN ?_ | with_reducible refine K.tR ?_ | with_reducible refine K.bR ?_ | with_reducible refine K.r1 (by with_unfolding_all rfl) (by with_unfolding_all rfl) ?_)
      all_goals first
        | (simp at *; simp_all [tupV, V.wk, V.wks, constV]; done)
        | (exfalso; simp at *; omega)
  by_cases k2 : f.kind = 2 ∨ f.kind = 3
  · have e := fshapeTwo k2
    obtain ⟨k, ty, ts, fs⟩ := f
    simp only [Fm.kind_mk, Fm.ty_mk, Fm.terms_mk, Fm.args_mk] at *
    by_cases hl : fs.length = 2
    · obtain ⟨a, b, rfl⟩ := len_2 hl
      have t1 := ha a (by simp)
      have t2 := ha b (by simp)
      rw [e]
      rcases k2 with rfl | rfl
      all_goals
        refine AC.mk Tryz.func114 rfl rfl rfl rfl rfl (Nat.le_of_ble_eq_true rfl) ?_
        repeat' (first | ((with_reducible refine D.nil ?_); refine AX.nilL ?_) | ((with_reducible refine D.load ?_); first | refine L.ldb U U U U U U ?_ | refine L.lda U U U U U ?_ | refine AX.sk U U ?_) | ((with_reducible refine D.move ?_); refine L.mv U U U ?_) | ((with_reducible refine D.fieldAddr ?_); first | refine L.fab U U U U U ?_ | refine AX.sk U U ?_ | ((fail_if_success refine AX.wt U ?_); refine AX.gs U U (fun _ => trivial) (fun h => ?_) (fun h => ?_))) | ((with_reducible refine D.assign ?_); refine L.asg U U U ?_) | ((with_reducible refine D.bin ?_); first | refine L.bn U U U U U ?_ | refine AX.sk U U ?_) | ((with_reducible refine D.call ?_); first | refine L.lnt U U U U ?_ | refine L.c2 (hz) U U U U ?_ | refine L.c2 (t1) U U U U ?_ | refine L.c2 (t2) U U U U ?_ | refine AX.sk U U ?_) | ((with_reducible refine D.box ?_); refine L.bx U U U U ?_) | ((with_reducible refine D.indexAddr ?_); first | refine L.ixt _ U U U U U U U (by (simp; done)) ?_ | refine AX.sk U U ?_) | ((with_reducible refine D.pick ?_); refine L.pk U U U U ?_) | ((with_reducible refine D.aw ?_); first | ((with_reducible refine D.sblk ?_); refine K.sq (AW.block ?_)) | refine K.sq (AW.regL ?_) | refine AW.condT U ?_ | refine AW.condF U ?_ | refine AW.ret ?_) | with_reducible refine K.tN ?_ | with_reducible refine K.tR ?_ | with_reducible refine K.bR ?_ | with_reducible refine K.r1 (by with_unfolding_all rfl) (by with_unfolding_all rfl) ?_)
        all_goals (simp at *; simp_all [tupV, V.wk, V.wks, constV]; done)
    · have e2 : (Fm.mk k ty ts fs).shape = false := by rw [e]; simp [hl]
      rw [e2]
      rcases k2 with rfl | rfl
      all_goals
        refine AC.mk Tryz.func114 rfl rfl rfl rfl rfl (Nat.le_of_ble_eq_true rfl) ?_
        repeat' (first | ((with_reducible refine D.nil ?_); refine AX.nilL ?_) | ((with_reducible refine D.load ?_); first | refine L.ldb U U U U U U ?_ | refine L.lda U U U U U ?_ | refine AX.sk U U ?_) | ((with_reducible refine D.move ?_); refine L.mv U U U ?_) | ((with_reducible refine D.fieldAddr ?_); first | refine L.fab U U U U U ?_ | refine AX.sk U U ?_ | ((fail_if_success refine AX.wt U ?_); refine AX.gs U U (fun _ => trivial) (fun h => ?_) (fun h => ?_))) | ((with_reducible refine D.assign ?_); refine L.asg U U U ?_) | ((with_reducible refine D.bin ?_); first | refine L.bn U U U U U ?_ | refine AX.sk U U ?_) | ((with_reducible refine D.call ?_); first | refine L.lnt U U U U ?_ | refine L.c2 (hz) U U U U ?_ | refine AX.sk U U ?_) | ((with_reducible refine D.box ?_); refine L.bx U U U U ?_) | ((with_reducible refine D.indexAddr ?_); first | refine L.ixt _ U U U U U U U (by (simp at *; omega)) ?_ | refine AX.sk U U ?_) | ((with_reducible refine D.pick ?_); refine L.pk U U U U ?_) | ((with_reducible refine D.aw ?_); first | ((with_reducible refine D.sblk ?_); refine K.sq (AW.block ?_)) | refine K.sq (AW.regL ?_) | refine AW.condT U ?_ | refine AW.condF U ?_ | refine AW.ret ?_) | with_reducible refine K.tN ?_ | with_reducible refine K.tR ?_ | with_reducible refine K.bR ?_ | with_reducible refine K.r1 (by with_unfolding_all rfl) (by with_unfolding_all rfl) ?_)
        all_goals first
          | (simp at *; simp_all [tupV, V.wk, V.wks, constV]; done)
          | (exfalso; simp at *; omega)
  cases k3 : quantK f.kind with
  | true =>
    have e := fshapeQu k3
    rw [k3] at hq
    have hk : f.kind = 4 ∨ f.kind = 5 ∨ f.kind = 6 ∨ f.kind = 7 := by rw [quantK_iff] at k3; omega
    obtain ⟨k, ty, ts, fs⟩ := f
    simp only [Fm.kind_mk, Fm.ty_mk, Fm.terms_mk, Fm.args_mk] at *
    rw [tyok_err] at e
    by_cases hl : fs.length = 1
    · obtain ⟨a, rfl⟩ := len_1 hl
      have t1 := ha a (by simp)
      rw [e]
      rcases hk with rfl | rfl | rfl | rfl
      all_goals
        refine AC.mk Tryz.func114 rfl rfl rfl rfl rfl (Nat.le_of_ble_eq_true rfl) ?_
        repeat' (first | ((with_reducible refine D.nil ?_); refine AX.nilL ?_) | ((with_reducible refine D.load ?_); first | refine L.ldb U U U U U U ?_ | refine L.lda U U U U U ?_ | refine AX.sk U U ?_) | ((with_reducible refine D.move ?_); refine L.mv U U U ?_) | ((with_reducible refine D.fieldAddr ?_); first | refine L.fab U U U U U ?_ | refine AX.sk U U ?_ | ((fail_if_success refine AX.wt U ?_); refine AX.gs U U (fun _ => trivial) (fun h => ?_) (fun h => ?_))) | ((with_reducible refine D.assign ?_); refine L.asg U U U ?_) | ((with_reducible refine D.bin ?_); first | refine L.bn U U U U U ?_ | refine AX.sk U U ?_) | ((with_reducible refine D.call ?_); first | refine L.lnt U U U U ?_ | refine L.c2 (hty) U U U U ?_ | refine L.c2 (hq) U U U U ?_ | refine L.c2 (t1) U U U U ?_ | refine AX.sk U U ?_) | ((with_reducible refine D.box ?_); refine L.bx U U U U ?_) | ((with_reducible refine D.indexAddr ?_); first | refine L.ixt _ U U U U U U U (by (simp; done)) ?_ | refine AX.sk U U ?_) | ((with_reducible refine D.pick ?_); refine L.pk U U U U ?_) | ((with_reducible refine D.aw ?_); first | ((with_reducible refine D.sblk ?_); refine K.sq (AW.block ?_)) | refine K.sq (AW.regL ?_) | refine AW.condT U ?_ | refine AW.condF U ?_ | refine AW.ret ?_) | with_reducible refine K.tN ?_ | with_reducible refine K.tR ?_ | with_reducible refine K.bR ?_ | with_reducible refine K.r1 (by with_unfolding_all rfl) (by with_unfolding_all rfl) ?_)
        all_goals (simp at *; simp_all [tupV, V.wk, V.wks, constV]; done)
    · have e2 : (Fm.mk k ty ts fs).shape = false := by rw [e]; simp [hl]
      rw [e2]
      rcases hk with rfl | rfl | rfl | rfl
      all_goals
        refine AC.mk Tryz.func114 rfl rfl rfl rfl rfl (Nat.le_of_ble_eq_true rfl) ?_
        repeat' (first | ((with_reducible refine D.nil ?_); refine AX.nilL ?_) | ((with_reducible refine D.load ?_); first | refine L.ldb U U U U U U ?_ | refine L.lda U U U U U ?_ | refine AX.sk U U ?_) | ((with_reducible refine D.move ?_); refine L.mv U U U ?_) | ((with_reducible refine D.fieldAddr ?_); first | refine L.fab U U U U U ?_ | refine AX.sk U U ?_ | ((fail_if_success refine AX.wt U ?_); refine AX.gs U U (fun _ => trivial) (fun h => ?_) (fun h => ?_))) | ((with_reducible refine D.assign ?_); refine L.asg U U U ?_) | ((with_reducible refine D.bin ?_); first | refine L.bn U U U U U ?_ | refine AX.sk U U ?_) | ((with_reducible refine D.call ?_); first | refine L.lnt U U U U ?_ | refine L.c2 (hty) U U U U ?_ | refine L.c2 (hq) U U U U ?_ | refine AX.sk U U ?_) | ((with_reducible refine D.box ?_); refine L.bx U U U U ?_) | ((with_reducible refine D.indexAddr ?_); first | refine L.ixt _ U U U U U U U (by (simp at *; omega)) ?_ | refine AX.sk U U ?_) | ((with_reducible refine D.pick ?_); refine L.pk U U U U ?_) | ((with_reducible refine D.aw ?_); first | ((with_reducible refine D.sblk ?_); refine K.sq (AW.block ?_)) | refine K.sq (AW.regL ?_) | refine AW.condT U ?_ | refine AW.condF U ?_ | refine AW.ret ?_) | with_reducible refine K.tN ?_ | with_reducible refine K.tR ?_ | with_reducible refine K.bR ?_ | with_reducible refine K.r1 (by with_unfolding_all rfl) (by with_unfolding_all rfl) ?_)
        all_goals first
          | (simp at *; simp_all [tupV, V.wk, V.wks, constV]; done)
          | (exfalso; simp at *; omega)
  | false =>
    have e := fshapeNo k1 k2 k3
    rw [k3] at hq
    rw [e]
    refine AC.mk Tryz.func114 rfl rfl rfl rfl rfl (Nat.le_of_ble_eq_true rfl) ?_
    repeat' (first | ((with_reducible refine D.nil ?_); refine AX.nilL ?_) | ((with_reducible refine D.load ?_); first | refine L.ldb U U U U U U ?_ | refine AX.sk U U ?_) | ((with_reducible refine D.move ?_); refine L.mv U U U ?_) | ((with_reducible refine D.fieldAddr ?_); first | refine L.fab U U U U U ?_ | refine AX.sk U U ?_ | ((fail_if_success refine AX.wt U ?_); refine AX.gs U U (fun _ => trivial) (fun h => ?_) (fun h => ?_))) | ((with_reducible refine D.assign ?_); refine L.asg U U U ?_) | ((with_reducible refine D.bin ?_); first | refine L.bn U U U U U ?_ | refine AX.sk U U ?_) | ((with_reducible refine D.call ?_); first | refine L.lnt U U U U ?_ | refine L.c2 (hq) U U U U ?_ | refine AX.sk U U ?_) | ((with_reducible refine D.box ?_); refine L.bx U U U U ?_) | ((with_reducible refine D.indexAddr ?_); refine AX.sk U U ?_) | ((with_reducible refine D.pick ?_); refine L.pk U U U U ?_) | ((with_reducible refine D.aw ?_); first | ((with_reducible refine D.sblk ?_); refine K.sq (AW.block ?_)) | refine K.sq (AW.regL ?_) | refine AW.condT U ?_ | refine AW.condF U ?_ | refine AW.condS U (fun h => ?_) (fun h => ?_) | refine AW.skip ?_ | refine AW.ret ?_) | with_reducible refine K.tN ?_ | with_reducible refine K.bN ?_ | with_reducible refine K.tR ?_ | with_reducible refine K.bR ?_ | with_reducible refine K.r1 (by with_unfolding_all rfl) (by with_unfolding_all rfl) ?_)
    all_goals first
      | rfl
      | (exfalso; simp at *; omega)
theorem fcountR_c : ∀ (n : Nat) (f : Fm), f.full ≤ n → n < 549755813888 → PC E 115 [.agg f.view] (.i f.size) := by
  intro n
  induction n with
  | zero => intro f h; have := f.full_pos; omega
  | succ n ih =>
  intro f hsz hn
  have hsz' := f.full_eq
  have hse := f.size_eq
  have hlen := lsum_len Fm.full Fm.full_pos f.args
  have hlen2 := lsum_len Tm.full Tm.full_pos f.terms
  have hle1 := lsum_le (f := Tm.size) (g := Tm.full) f.terms fun x _ => x.size_le_full
  have hle2 := lsum_le (f := Fm.size) (g := Fm.full) f.args fun x _ => x.size_le_full
  refine AC.mk Tryz.func115 rfl rfl rfl rfl rfl (Nat.le_of_ble_eq_true rfl) ?_
  repeat' (first | ((with_reducible refine D.nil ?_); refine AX.nilL ?_) | ((with_reducible refine D.load ?_); refine L.ldb U U U U U U ?_) | ((with_reducible refine D.move ?_); refine L.mv U U U ?_) | ((with_reducible refine D.fieldAddr ?_); refine L.fab U U U U U ?_) | ((with_reducible refine D.assign ?_); refine L.asg U U U ?_) | ((with_reducible refine D.call ?_); refine L.lnt U U U U ?_) | ((with_reducible refine D.box ?_); refine L.bx U U U U ?_) | ((with_reducible refine D.aw ?_); first | refine K.sq (AW.regL ?_) | refine K.sq (K.sq ?_) | refine AW.regL ?_) | with_reducible refine K.tN ?_)
  refine AW.range f.terms.length (fun m => True)
    (fun m => ([(1, .ptr 0 0), (3, .i (1 + ((f.terms.take m).map Tm.size).sum : Nat)), (9, .s .tm f.terms), (10, .i f.terms.length), (11, .i m)], ⟨1, [(0, .var f.view)]⟩))
    (by omega) (fun m => rfl) (fun m => rfl) U trivial (Weak.mk [some 0] _ _ _ U U U U (by (repeat' (first | exact trivial | refine And.intro ?_ ?_ | refine ⟨_, U, _, U, ?_⟩ | exact VLe.refl _)); done) (by (repeat' (first | exact trivial | refine And.intro ?_ ?_ | refine ⟨_, U, _, U, _, U, ?_⟩ | exact VLe.refl _)); done)) ?_ ?_
  · intro m hm _
    have hs1 := lsum_take Tm.size f.terms m hm
    have hs2 := lsum_mem Tm.full (List.getElem_mem hm)
    have hs3 := lsum_take_le Tm.size f.terms (m + 1)
    have hc := countTm_c _ f.terms[m] (Nat.le_refl _) (by omega)
    repeat' (first | ((with_reducible refine D.nil ?_); refine AX.nilL ?_) | ((with_reducible refine D.load ?_); first | refine L.ldb U U U U U U ?_ | refine L.lda U U U U U ?_) | ((with_reducible refine D.move ?_); refine L.mv U U U ?_) | ((with_reducible refine D.assign ?_); refine L.asg U U U ?_) | ((with_reducible refine D.bin ?_); refine L.ad U U U U (by omega) ?_) | ((with_reducible refine D.call ?_); refine L.c2 (hc) U U U U ?_) | ((with_reducible refine D.alloc ?_); refine L.al U U U ?_) | ((with_reducible refine D.store ?_); refine L.st U U U U U U U U U ?_) | ((with_reducible refine D.indexAddr ?_); refine L.ixt _ U U U U U U U (by assumption) ?_) | ((with_reducible refine D.aw ?_); first | refine K.sq (AW.regL ?_) | refine AW.regL ?_) | with_reducible refine K.tN ?_ | with_reducible refine K.bN ?_)
    refine ⟨rfl, trivial, ?_⟩
    simp only [hs1]
    exact (Weak.mk [some 0] _ _ _ U U U U (by (repeat' (first | exact trivial | refine And.intro ?_ ?_ | refine ⟨_, U, _, U, ?_⟩ | exact VLe.refl _ | exact VLe.of_eq (by simp [Sto.upd, Int.natCast_add, Int.add_assoc]))); done) (by (repeat' (first | exact trivial | refine And.intro ?_ ?_ | refine ⟨_, U, _, U, _, U, ?_⟩ | exact VLe.refl _)); done))
  · intro _
    simp only [List.take_length]
    repeat' (first | ((with_reducible refine D.nil ?_); refine AX.nilL ?_) | ((with_reducible refine D.load ?_); refine L.ldb U U U U U U ?_) | ((with_reducible refine D.move ?_); refine L.mv U U U ?_) | ((with_reducible refine D.fieldAddr ?_); refine L.fab U U U U U ?_) | ((with_reducible refine D.call ?_); refine L.lnt U U U U ?_) | ((with_reducible refine D.aw ?_); first | refine K.sq (K.sq ?_) | refine AW.regL ?_) | with_reducible refine K.tN ?_)
    refine AW.range f.args.length (fun m => True)
      (fun m => ([(1, .ptr 0 0), (3, .i (1 + (f.terms.map Tm.size).sum + ((f.args.take m).map Fm.size).sum : Nat)), (21, .s .fm f.args), (22, .i f.args.length), (23, .i m)], ⟨1, [(0, .var f.view)]⟩))
      (by omega) (fun m => rfl) (fun m => rfl) U trivial (Weak.mk [some 0] _ _ _ U U U U (by (repeat' (first | exact trivial | refine And.intro ?_ ?_ | refine ⟨_, U, _, U, ?_⟩ | exact VLe.refl _)); done) (by (repeat' (first | exact trivial | refine And.intro ?_ ?_ | refine ⟨_, U, _, U, _, U, ?_⟩ | exact VLe.refl _)); done)) ?_ ?_
    · intro m hm _
      have hs1 := lsum_take Fm.size f.args m hm
      have hs2 := lsum_mem Fm.full (List.getElem_mem hm)
      have hs3 := lsum_take_le Fm.size f.args (m + 1)
      have hc := ih f.args[m] (by omega) (by omega)
      repeat' (first | ((with_reducible refine D.nil ?_); refine AX.nilL ?_) | ((with_reducible refine D.load ?_); first | refine L.ldb U U U U U U ?_ | refine L.lda U U U U U ?_) | ((with_reducible refine D.move ?_); refine L.mv U U U ?_) | ((with_reducible refine D.assign ?_); refine L.asg U U U ?_) | ((with_reducible refine D.bin ?_); refine L.ad U U U U (by omega) ?_) | ((with_reducible refine D.call ?_); refine L.c2 (hc) U U U U ?_) | ((with_reducible refine D.alloc ?_); refine L.al U U U ?_) | ((with_reducible refine D.store ?_); refine L.st U U U U U U U U U ?_) | ((with_reducible refine D.indexAddr ?_); refine L.ixt _ U U U U U U U (by assumption) ?_) | ((with_reducible refine D.aw ?_); first | refine K.sq (AW.regL ?_) | refine AW.regL ?_) | with_reducible refine K.tN ?_ | with_reducible refine K.bN ?_)
      refine ⟨rfl, trivial, ?_⟩
      simp only [hs1]
      exact (Weak.mk [some 0] _ _ _ U U U U (by (repeat' (first | exact trivial | refine And.intro ?_ ?_ | refine ⟨_, U, _, U, ?_⟩ | exact VLe.refl _ | exact VLe.of_eq (by simp [Sto.upd, Int.natCast_add, Int.add_assoc]))); done) (by (repeat' (first | exact trivial | refine And.intro ?_ ?_ | refine ⟨_, U, _, U, _, U, ?_⟩ | exact VLe.refl _)); done))
    · intro _
      simp only [List.take_length]
      repeat' (first | ((with_reducible refine D.nil ?_); refine AX.nilL ?_) | ((with_reducible refine D.move ?_); refine L.mv U U U ?_) | ((with_reducible refine D.assign ?_); refine L.asg U U U ?_) | ((with_reducible refine D.aw ?_); first | refine K.sq (AW.regL ?_) | refine AW.ret ?_) | with_reducible refine K.tN ?_ | with_reducible refine K.r1 (by with_unfolding_all rfl) (by with_unfolding_all rfl) ?_)
      rw [hse]
      rfl
theorem fcheckR_c (f : Fm) (hf : f.full < 549755813888) : PC E 57 [.agg f.view] (.i f.err) := by
  have h1 := fshapeR_c _ f (Nat.le_refl _) hf
  have h2 := fcountR_c _ f (Nat.le_refl _) hf
  have hle := f.size_le_full
  cases hs : f.shape with
  | false =>
    have e : f.err = 2 := by simp [Fm.err, hs]
    rw [hs] at h1
    rw [e]
    refine AC.mk Tryz.func57 rfl rfl rfl rfl rfl (Nat.le_of_ble_eq_true rfl) ?_
    repeat' (first | ((with_reducible refine D.nil ?_); refine AX.nilL ?_) | ((with_reducible refine D.load ?_); refine L.ldb U U U U U U ?_) | ((with_reducible refine D.assign ?_); refine L.asg U U U ?_) | ((with_reducible refine D.call ?_); refine L.c2 (h1) U U U U ?_) | ((with_reducible refine D.box ?_); refine L.bx U U U U ?_) | ((with_reducible refine D.not ?_); refine L.nt U U U ?_) | ((with_reducible refine D.aw ?_); first | refine K.sq (AW.regL ?_) | refine K.sq (K.sq ?_) | refine AW.regL ?_ | refine AW.condT U ?_ | refine AW.ret ?_) | with_reducible refine K.tN ?_ | with_reducible refine K.tR ?_ | with_reducible refine K.r1 (by with_unfolding_all rfl) (by with_unfolding_all rfl) ?_)
    rfl
  | true =>
    rw [hs] at h1
    by_cases hz : f.size > 4096
    · have e : f.err = 4 := by simp [Fm.err, hs, hz]
      rw [e]
      refine AC.mk Tryz.func57 rfl rfl rfl rfl rfl (Nat.le_of_ble_eq_true rfl) ?_
      repeat' (first | ((with_reducible refine D.nil ?_); refine AX.nilL ?_) | ((with_reducible refine D.load ?_); refine L.ldb U U U U U U ?_) | ((with_reducible refine D.assign ?_); refine L.asg U U U ?_) | ((with_reducible refine D.bin ?_); refine L.bn U U U U U ?_) | ((with_reducible refine D.call ?_); first | refine L.c2 (h1) U U U U ?_ | refine L.c2 (h2) U U U U ?_) | ((with_reducible refine D.box ?_); refine L.bx U U U U ?_) | ((with_reducible refine D.not ?_); refine L.nt U U U ?_) | ((with_reducible refine D.aw ?_); first | refine K.sq (AW.regL ?_) | refine K.sq (K.sq ?_) | refine AW.regL ?_ | refine AW.condF U ?_ | refine AW.condS U (fun h => ?_) (fun h => ?_) | refine AW.skip ?_ | refine AW.ret ?_) | with_reducible refine K.tN ?_ | with_reducible refine K.tR ?_ | with_reducible refine K.r1 (by with_unfolding_all rfl) (by with_unfolding_all rfl) ?_)
      · rfl
      · exfalso; simp at h; omega
    · have e : f.err = 0 := by simp [Fm.err, hs, hz]
      rw [e]
      refine AC.mk Tryz.func57 rfl rfl rfl rfl rfl (Nat.le_of_ble_eq_true rfl) ?_
      repeat' (first | ((with_reducible refine D.nil ?_); refine AX.nilL ?_) | ((with_reducible refine D.load ?_); refine L.ldb U U U U U U ?_) | ((with_reducible refine D.assign ?_); refine L.asg U U U ?_) | ((with_reducible refine D.bin ?_); refine L.bn U U U U U ?_) | ((with_reducible refine D.call ?_); first | refine L.c2 (h1) U U U U ?_ | refine L.c2 (h2) U U U U ?_) | ((with_reducible refine D.box ?_); refine L.bx U U U U ?_) | ((with_reducible refine D.not ?_); refine L.nt U U U ?_) | ((with_reducible refine D.aw ?_); first | refine K.sq (AW.regL ?_) | refine K.sq (K.sq ?_) | refine AW.regL ?_ | refine AW.condF U ?_ | refine AW.condS U (fun h => ?_) (fun h => ?_) | refine AW.skip ?_ | refine AW.ret ?_) | with_reducible refine K.tN ?_ | with_reducible refine K.tR ?_ | with_reducible refine K.r1 (by with_unfolding_all rfl) (by with_unfolding_all rfl) ?_)
      · exfalso; simp at h; omega
      · rfl
end Go.Ab
namespace Go.Ab
open Go Go.Proofs
set_option maxRecDepth 100000
set_option maxHeartbeats 4000000
set_option linter.all false
theorem putG_node {at_ b : Int} {s t : Tm} (h : t.kind ≠ 1) : t.re (putG at_ s) b = .mk t.kind t.index t.ty (t.args.map fun x => x.re (putG at_ s) (up t.kind b)) := re_node h
theorem rin_c (at_ : Int) (s : Tm) (hat : 0 ≤ at_ ∧ at_ < 137438953472) (hs : s.shape = true) (hsf : s.full < 137438953472) (hsi : ∀ p ∈ s.vars 0, 0 ≤ p.1 ∧ p.1 < 274877906944) : ∀ (n : Nat) (t : Tm) (dp : Int), t.full ≤ n → n < 137438953472 → 0 ≤ dp → dp + n < 274877906944 → t.shape = true → (∀ p ∈ t.vars 0, 0 ≤ p.1 ∧ p.1 < 274877906944) →
    PC E 150 [.agg t.view, .i at_, .i dp, .agg s.view] (.agg (t.re (putG at_ s) dp).view) := by
  intro n
  induction n with
  | zero => intro t dp h; have := t.full_pos; omega
  | succ n ih =>
  intro t dp hsz hn h1 h2 ht hix
  have hsz' := Tm.full_eq t
  have hlen := lsum_len Tm.full Tm.full_pos t.args
  have hup := up_bd t.kind dp
  have hpl := up_plus t.kind dp
  have hb := rbelow_c t
  by_cases hv : t.kind = 1
  · have hti := hix (t.index, 0) (by rw [vars_var ht hv]; simp)
    rw [var_vT ht hv]
    generalize t.index = i at hti
    simp only at hti
    rw [re_vT, putG_eq]
    have hvi : (vT i).index = i := rfl
    have hu := rup_c (at_ + dp) (by omega) _ s 0 (Nat.le_refl _) (by omega) (by omega) (by omega) hs fun p hp => by have := hsi p hp; omega
    have hvc := var_c (i - 1)
    clear ih hix
    by_cases h3 : i - dp = at_
    · rw [if_pos h3]
      have h3' : i = at_ + dp := by omega
      subst h3'
      refine AC.mk Tryz.func150 rfl rfl rfl rfl rfl (Nat.le_of_ble_eq_true rfl) ?_
      repeat' (first | ((with_reducible refine D.nil ?_); refine AX.nilL ?_) | ((with_reducible refine D.load ?_); refine L.ldb U U U U U U ?_) | ((with_reducible refine D.move ?_); refine L.mv U U U ?_) | ((with_reducible refine D.fieldAddr ?_); refine L.fab U U U U U ?_) | ((with_reducible refine D.bin ?_); first | refine L.ad U U U U (by omega) ?_ | refine L.bn U U U U U ?_) | ((with_reducible refine D.call ?_); refine L.c2 (hu) U U U U ?_) | ((with_reducible refine D.box ?_); refine L.bx U U U U ?_) | ((with_reducible refine D.alloc ?_); refine L.al U U U ?_) | ((with_reducible refine D.store ?_); refine L.st U U U U U U U U U ?_) | ((with_reducible refine D.aw ?_); (fail_if_success with_reducible refine D.stopR (id := 4) ?_); (fail_if_success with_reducible refine D.stopS (id := 4) ?_); first | refine K.sq (AW.regL ?_) | refine K.sq (K.sq ?_) | refine AW.regL ?_ | refine AW.condT U ?_ | refine AW.condS U (fun h => ?_) (fun h => ?_) | refine AW.skip ?_ | refine AW.ret ?_) | with_reducible refine K.tN ?_ | with_reducible refine K.tR ?_ | with_reducible refine K.r1 (by with_unfolding_all rfl) (by with_unfolding_all rfl) ?_)
      all_goals first
        | rfl
        | (exfalso; simp at h; done)
        | (exfalso; simp at h; omega)
    · rw [if_neg h3]
      by_cases h4 : i - dp > at_
      · rw [if_pos h4]
        refine AC.mk Tryz.func150 rfl rfl rfl rfl rfl (Nat.le_of_ble_eq_true rfl) ?_
        repeat' (first | ((with_reducible refine D.nil ?_); refine AX.nilL ?_) | ((with_reducible refine D.load ?_); refine L.ldb U U U U U U ?_) | ((with_reducible refine D.move ?_); refine L.mv U U U ?_) | ((with_reducible refine D.fieldAddr ?_); refine L.fab U U U U U ?_) | ((with_reducible refine D.bin ?_); first | refine L.ad U U U U (by omega) ?_ | refine L.bn U U U U U ?_) | ((with_reducible refine D.box ?_); refine L.bx U U U U ?_) | ((with_reducible refine D.alloc ?_); refine L.al U U U ?_) | ((with_reducible refine D.aw ?_); (fail_if_success with_reducible refine D.stopR (id := 3) ?_); (fail_if_success with_reducible refine D.stopS (id := 3) ?_); (fail_if_success with_reducible refine D.stopR (id := 5) ?_); (fail_if_success with_reducible refine D.stopS (id := 5) ?_); (fail_if_success with_reducible refine D.stopR (id := 6) ?_); (fail_if_success with_reducible refine D.stopS (id := 6) ?_); first | refine K.sq (AW.regL ?_) | refine K.sq (K.sq ?_) | refine AW.regL ?_ | refine AW.condT U ?_ | refine AW.condS U (fun h => ?_) (fun h => ?_) | refine AW.skip ?_) | with_reducible refine K.tN ?_)
        all_goals first
          | (exfalso; simp at h; omega)
          | skip
        repeat' (first | ((with_reducible refine D.nil ?_); refine AX.nilL ?_) | ((with_reducible refine D.load ?_); refine L.ldb U U U U U U ?_) | ((with_reducible refine D.fieldAddr ?_); refine L.fab U U U U U ?_) | ((with_reducible refine D.bin ?_); refine L.sb U U U U (by omega) ?_) | ((with_reducible refine D.call ?_); refine L.c2 (hvc) U U U U ?_) | ((with_reducible refine D.store ?_); refine L.st U U U U U U U U U ?_) | ((with_reducible refine D.aw ?_); first | refine K.sq (AW.regL ?_) | refine AW.ret ?_) | with_reducible refine K.tN ?_ | with_reducible refine K.tR ?_ | with_reducible refine K.r1 (by with_unfolding_all rfl) (by with_unfolding_all rfl) ?_)
        rfl
      · rw [if_neg h4]
        refine AC.mk Tryz.func150 rfl rfl rfl rfl rfl (Nat.le_of_ble_eq_true rfl) ?_
        repeat' (first | ((with_reducible refine D.nil ?_); refine AX.nilL ?_) | ((with_reducible refine D.load ?_); refine L.ldb U U U U U U ?_) | ((with_reducible refine D.move ?_); refine L.mv U U U ?_) | ((with_reducible refine D.fieldAddr ?_); refine L.fab U U U U U ?_) | ((with_reducible refine D.bin ?_); first | refine L.ad U U U U (by omega) ?_ | refine L.bn U U U U U ?_) | ((with_reducible refine D.box ?_); refine L.bx U U U U ?_) | ((with_reducible refine D.alloc ?_); refine L.al U U U ?_) | ((with_reducible refine D.aw ?_); (fail_if_success with_reducible refine D.stopR (id := 3) ?_); (fail_if_success with_reducible refine D.stopS (id := 3) ?_); (fail_if_success with_reducible refine D.stopR (id := 5) ?_); (fail_if_success with_reducible refine D.stopS (id := 5) ?_); (fail_if_success with_reducible refine D.stopR (id := 6) ?_); (fail_if_success with_reducible refine D.stopS (id := 6) ?_); first | refine K.sq (AW.regL ?_) | refine K.sq (K.sq ?_) | refine AW.regL ?_ | refine AW.condT U ?_ | refine AW.condS U (fun h => ?_) (fun h => ?_) | refine AW.skip ?_) | with_reducible refine K.tN ?_)
        all_goals first
          | (exfalso; simp at h; omega)
          | skip
        repeat' (first | ((with_reducible refine D.nil ?_); refine AX.nilL ?_) | ((with_reducible refine D.load ?_); refine L.ldb U U U U U U ?_) | ((with_reducible refine D.store ?_); refine L.st U U U U U U U U U ?_) | ((with_reducible refine D.aw ?_); first | refine K.sq (AW.regL ?_) | refine AW.ret ?_) | with_reducible refine K.tN ?_ | with_reducible refine K.tR ?_ | with_reducible refine K.r1 (by with_unfolding_all rfl) (by with_unfolding_all rfl) ?_)
        rfl
  have he := putG_node (at_ := at_) (b := dp) (s := s) hv
  refine AC.mk Tryz.func150 rfl rfl rfl rfl rfl (Nat.le_of_ble_eq_true rfl) ?_
  repeat' (first | ((with_reducible refine D.nil ?_); refine AX.nilL ?_) | ((with_reducible refine D.load ?_); refine L.ldb U U U U U U ?_) | ((with_reducible refine D.move ?_); refine L.mv U U U ?_) | ((with_reducible refine D.fieldAddr ?_); refine L.fab U U U U U ?_) | ((with_reducible refine D.bin ?_); refine L.bn U U U U U ?_) | ((with_reducible refine D.call ?_); refine L.lnt U U U U ?_) | ((with_reducible refine D.box ?_); refine L.bx U U U U ?_) | ((with_reducible refine D.alloc ?_); refine L.al U U U ?_) | ((with_reducible refine D.store ?_); refine L.st U U U U U U U U U ?_) | ((with_reducible refine D.ax ?_); refine L.bd U U U U U ?_) | ((with_reducible refine D.aw ?_); (fail_if_success with_reducible refine D.stopR (id := 2) ?_); (fail_if_success with_reducible refine D.stopS (id := 2) ?_); first | refine K.sq (AW.regL ?_) | refine K.sq (K.sq ?_) | refine AW.regL ?_ | refine AW.condS U (fun h => ?_) (fun h => ?_) | refine AW.skip ?_) | with_reducible refine K.tN ?_)
  all_goals first
    | (exfalso; simp at h; exact hv h)
    | skip
  skip
  refine AW.range t.args.length (fun m => True) (fun m => ([(1, .i at_), (2, .i dp), (4, .ptr 0 0), (7, .ptr 1 0), (8, .ptr 2 0), (9, .ptr 3 0), (45, .s .tm t.args), (46, .i t.args.length), (47, .i m)], ⟨5, [(0, .var t.view), (1, .var s.view), (2, .var [.i 0, .i 0, .i 0, .slice .nil (.t .ty []), .slice .nil (.t .tm [])]), (3, .var [.i t.kind, .i t.index, .i t.ty.kind, .s .ty t.ty.args, .slice (.own 4) (.t .tm ((t.args.take m).map fun x => x.re (putG at_ s) (up t.kind dp)))]), (4, .row)]⟩))
    (by omega) (fun m => rfl) (fun m => rfl) U trivial (Weak.mk [some 0, some 1, some 2, some 3, none] _ _ _ U U U U (by (repeat' (first | exact trivial | refine And.intro ?_ ?_ | refine ⟨_, U, _, U, ?_⟩ | exact VLe.refl _)); done) (by (repeat' (first | exact trivial | exact Or.inl U | refine And.intro ?_ ?_ | refine ⟨_, U, _, U, _, U, ?_⟩ | exact VLe.refl _)); done)) ?_ ?_
  · intro m hm _
    have hs2 := lsum_mem Tm.full (List.getElem_mem hm)
    have hc := ih t.args[m] (up t.kind dp) (by omega) (by omega) (by omega) (by omega) (shape_args ht _ (List.getElem_mem hm)) (fun p hp => by
      obtain ⟨q, hq, hqe⟩ := vars_idx (b' := up t.kind 0) p hp
      have := hix q (mem_vars hv (List.getElem_mem hm) hq)
      rw [← hqe]; exact this)
    rw [← hpl] at hc
    simp only [← hpl]
    repeat' (first | ((with_reducible refine D.nil ?_); first | refine AX.nilL ?_ | refine AX.nilD (by kernel_rfl) ?_) | ((with_reducible refine D.load ?_); first | refine L.ldb U U U U U U ?_ | refine L.lda U U U U U ?_) | ((with_reducible refine D.move ?_); refine L.mv U U U ?_) | ((with_reducible refine D.fieldAddr ?_); refine L.fab U U U U U ?_) | ((with_reducible refine D.bin ?_); refine L.ad U U U U (by omega) ?_) | ((with_reducible refine D.call ?_); first | refine L.apt U U U U U U (by first | exact trivial | exact ⟨rfl, trivial⟩) U U (by first | omega | (simp; omega)) ?_ | refine L.c2 (hb) U U U U ?_ | refine L.c2 (hc) U U U U ?_) | ((with_reducible refine D.alloc ?_); refine L.al U U U ?_) | ((with_reducible refine D.store ?_); refine L.st U U U U U U U U U ?_) | ((with_reducible refine D.indexAddr ?_); refine L.ixt _ U U U U U U U (by assumption) ?_) | ((with_reducible refine D.ax ?_); refine L.bs1 U U U U U (EC.fold_of U) U U ?_) | ((with_reducible refine D.aw ?_); first | refine K.sq (AW.regL ?_) | refine AW.regD mixed (by kernel_rfl) ?_) | with_reducible refine K.tN ?_ | with_reducible refine K.bN ?_)
    exact ⟨rfl, trivial, (Weak.mk [some 0, some 1, some 2, some 3, some 6] _ _ _ U U U U (by (repeat' (first | exact trivial | refine And.intro ?_ ?_ | refine ⟨_, U, _, U, ?_⟩ | exact VLe.refl _)); done) (by (repeat' (first | exact trivial | exact Or.inr ⟨_, U, rfl⟩ | refine And.intro ?_ ?_ | refine ⟨_, U, _, U, _, U, ?_⟩ | exact VLe.refl _ | exact VLe.of_eq (by simp [Sto.upd, map_take _ _ _ hm]))); done))⟩
  · intro _
    simp only [List.take_length]
    repeat' (first | ((with_reducible refine D.nil ?_); refine AX.nilL ?_) | ((with_reducible refine D.load ?_); refine L.ldb U U U U U U ?_) | ((with_reducible refine D.store ?_); refine L.st U U U U U U U U U ?_) | ((with_reducible refine D.aw ?_); first | refine K.sq (AW.regL ?_) | refine AW.ret ?_) | with_reducible refine K.tN ?_ | with_reducible refine K.r1 (by with_unfolding_all rfl) (by with_unfolding_all rfl) ?_)
    rw [he]
    simp [tupV, V.wk, V.wks, constV, Ty.view, Tm.view]
theorem near_all {t : Tm} (h : t.near = true) : ∀ q ∈ t.vars 0, q.1 ≤ 536870912 := fun q hq => by simpa using List.all_eq_true.1 h q hq
theorem rlift_c (t : Tm) (fr by_ : Int) (ht : t.full < 274877906944) : PC E 59 [.agg t.view, .i fr, .i by_] (.tup [.agg (if liftErr t fr by_ = 0 then t.re (liftG fr by_) 0 else noTm).view, .i (liftErr t fr by_)]) := by
  have h1 := checkTmR_c t (by omega)
  by_cases he : t.err = 0
  case neg =>
    have e : liftErr t fr by_ = t.err := by simp only [liftErr]; rw [if_pos he]
    rw [e, if_neg he]
    refine AC.mk Tryz.func59 rfl rfl rfl rfl rfl (Nat.le_of_ble_eq_true rfl) ?_
    repeat' (first | ((with_reducible refine D.nil ?_); refine AX.nilL ?_) | ((with_reducible refine D.load ?_); refine L.ldb U U U U U U ?_) | ((with_reducible refine D.move ?_); refine L.mv U U U ?_) | ((with_reducible refine D.assign ?_); refine L.asg U U U ?_) | ((with_reducible refine D.bin ?_); refine L.bn U U U U U ?_) | ((with_reducible refine D.call ?_); refine L.c2 (h1) U U U U ?_) | ((with_reducible refine D.box ?_); refine L.bx U U U U ?_) | ((with_reducible refine D.alloc ?_); refine L.al U U U ?_) | ((with_reducible refine D.store ?_); refine L.st U U U U U U U U U ?_) | ((with_reducible refine D.ax ?_); refine L.bd U U U U U ?_) | ((with_reducible refine D.aw ?_); (fail_if_success with_reducible refine D.stopR (id := 4) ?_); (fail_if_success with_reducible refine D.stopS (id := 4) ?_); first | refine K.sq (AW.regL ?_) | refine K.sq (K.sq ?_) | refine AW.regL ?_ | refine AW.condS U (fun h => ?_) (fun h => ?_) | refine AW.skip ?_ | refine AW.ret ?_) | with_reducible refine K.tN ?_ | with_reducible refine K.tR ?_ | with_reducible refine K.r1 (by with_unfolding_all rfl) (by with_unfolding_all rfl) ?_)
    all_goals first
      | rfl
      | (exfalso; simp at h; exact he h)
  obtain ⟨hsh, hsz⟩ := err_zero he
  have h2 := rleast_c 536870912 (by omega) _ t (Nat.le_refl _) (by omega) hsh
  have hfl := tfull_le t hsh
  rw [he] at h1
  by_cases hr : (0 ≤ fr ∧ fr ≤ 4096) ∧ (0 ≤ by_ ∧ by_ ≤ 4096) ∧ t.near = true
  · have e : liftErr t fr by_ = 0 := by
      simp only [liftErr]
      rw [if_neg (by simp [he]), if_neg]
      rintro (hc | hc | hc)
      · exact hc hr.1
      · exact hc hr.2.1
      · rw [hr.2.2] at hc; cases hc
    have h3 := rup_c by_ (by omega) _ t fr (Nat.le_refl _) (by omega) (by omega) (by omega) hsh fun p hp => ⟨t.vars_nonneg hsh 0 p hp, by have := near_all hr.2.2 p hp; omega⟩
    have hlf := lift_full fr by_ t 0 hsh
    have h4 := copyTm_c _ (t.re (liftG fr by_) 0) (Nat.le_refl _) (by omega)
    have hn := hr.2.2
    rw [near_least] at hn
    rw [hn] at h2
    rw [e, if_pos rfl]
    obtain ⟨⟨r1, r2⟩, ⟨r3, r4⟩, _⟩ := hr
    clear he
    refine AC.mk Tryz.func59 rfl rfl rfl rfl rfl (Nat.le_of_ble_eq_true rfl) ?_
    repeat' (first | ((with_reducible refine D.nil ?_); refine AX.nilL ?_) | ((with_reducible refine D.load ?_); first | refine L.ldb U U U U U U ?_ | refine AX.sk U U ?_ | ((fail_if_success refine AX.wt U ?_); refine AX.gs U U (fun _ => trivial) (fun h => ?_) (fun h => ?_))) | ((with_reducible refine D.move ?_); first | refine L.mv U U U ?_ | refine AX.sk U U ?_ | ((fail_if_success refine AX.wt U ?_); refine AX.gs U U (fun _ => trivial) (fun h => ?_) (fun h => ?_))) | ((with_reducible refine D.assign ?_); refine L.asg U U U ?_) | ((with_reducible refine D.bin ?_); first | refine L.bn U U U U U ?_ | refine AX.sk U U ?_) | ((with_reducible refine D.call ?_); first | refine L.c2 (h1) U U U U ?_ | refine L.c2 (h2) U U U U ?_ | refine L.c2 (h3) U U U U ?_ | refine L.c2 (h4) U U U U ?_ | refine AX.sk U U ?_) | ((with_reducible refine D.box ?_); refine L.bx U U U U ?_) | ((with_reducible refine D.alloc ?_); refine L.al U U U ?_) | ((with_reducible refine D.store ?_); refine L.st U U U U U U U U U ?_) | ((with_reducible refine D.not ?_); first | refine L.nt U U U ?_ | refine AX.sk U U ?_) | ((with_reducible refine D.pick ?_); refine L.pk U U U U ?_) | ((with_reducible refine D.ax ?_); refine L.bd U U U U U ?_) | ((with_reducible refine D.aw ?_); first | refine K.sq (AW.regL ?_) | refine K.sq (K.sq ?_) | refine AW.regL ?_ | refine AW.condT U ?_ | refine AW.condF U ?_ | refine AW.skip ?_ | refine AW.ret ?_) | with_reducible refine K.tN ?_ | with_reducible refine K.tR ?_ | with_reducible refine K.r1 (by with_unfolding_all rfl) (by with_unfolding_all rfl) ?_)
    all_goals first
      | rfl
      | (exfalso; simp at *; omega)
  · have e : liftErr t fr by_ = 1 := by
      simp only [liftErr]
      rw [if_neg (by simp [he]), if_pos]
      by_cases a1 : 0 ≤ fr ∧ fr ≤ 4096
      · by_cases a2 : 0 ≤ by_ ∧ by_ ≤ 4096
        · refine .inr (.inr ?_)
          cases hn : t.near with
          | false => rfl
          | true => exact absurd ⟨a1, a2, hn⟩ hr
        · exact .inr (.inl a2)
      · exact .inl a1
    rw [e, if_neg (by decide)]
    rw [near_least] at hr
    refine AC.mk Tryz.func59 rfl rfl rfl rfl rfl (Nat.le_of_ble_eq_true rfl) ?_
    repeat' (first | ((with_reducible refine D.nil ?_); refine AX.nilL ?_) | ((with_reducible refine D.load ?_); first | refine L.ldb U U U U U U ?_ | refine AX.sk U U ?_ | ((fail_if_success refine AX.wt U ?_); refine AX.gs U U (fun _ => trivial) (fun h => ?_) (fun h => ?_))) | ((with_reducible refine D.move ?_); first | refine L.mv U U U ?_ | refine AX.sk U U ?_ | ((fail_if_success refine AX.wt U ?_); refine AX.gs U U (fun _ => trivial) (fun h => ?_) (fun h => ?_))) | ((with_reducible refine D.assign ?_); refine L.asg U U U ?_) | ((with_reducible refine D.bin ?_); first | refine L.bn U U U U U ?_ | refine AX.sk U U ?_) | ((with_reducible refine D.call ?_); first | refine L.c2 (h1) U U U U ?_ | refine L.c2 (h2) U U U U ?_ | refine AX.sk U U ?_) | ((with_reducible refine D.box ?_); refine L.bx U U U U ?_) | ((with_reducible refine D.alloc ?_); refine L.al U U U ?_) | ((with_reducible refine D.store ?_); refine L.st U U U U U U U U U ?_) | ((with_reducible refine D.not ?_); first | refine L.nt U U U ?_ | refine AX.sk U U ?_) | ((with_reducible refine D.pick ?_); refine L.pk U U U U ?_) | ((with_reducible refine D.ax ?_); refine L.bd U U U U U ?_) | ((with_reducible refine D.aw ?_); (fail_if_success with_reducible refine D.stopR (id := 6) ?_); (fail_if_success with_reducible refine D.stopS (id := 6) ?_); first | refine K.sq (AW.regL ?_) | refine K.sq (K.sq ?_) | refine AW.regL ?_ | refine AW.condT U ?_ | refine AW.condF U ?_ | refine AW.condS U (fun h => ?_) (fun h => ?_) | refine AW.skip ?_ | refine AW.ret ?_) | with_reducible refine K.tN ?_ | with_reducible refine K.tR ?_ | with_reducible refine K.r1 (by with_unfolding_all rfl) (by with_unfolding_all rfl) ?_)
    all_goals first
      | rfl
      | (exfalso; apply hr; simp at *; exact ⟨by omega, by omega, by assumption⟩)
      | (exfalso; apply hr; simp_all; omega)
theorem rtimesF_c : ∀ (n : Nat) (f : Fm) (at_ : Int), f.full ≤ n → n < 274877906944 → -274877906944 ≤ at_ → at_ + n < 549755813888 → f.shape = true → PC E 118 [.agg f.view, .i at_] (.i (timesF at_ f)) := by
  intro n
  induction n with
  | zero => intro f at_ h; have := f.full_pos; omega
  | succ n ih =>
  intro f at_ hsz hn h1 h2 hs
  have hsz' := f.full_eq
  have hlen := lsum_len Fm.full Fm.full_pos f.args
  have hlen2 := lsum_len Tm.full Tm.full_pos f.terms
  have he := timesF_eq (at_ := at_) hs
  have hup := upF_le f.kind at_
  have hpl := upF_plus f.kind at_
  have hb := rfbelow_c f
  have hle1 : ∀ m, ((f.terms.take m).map (timesT at_)).sum ≤ (f.terms.map Tm.full).sum := fun m => by
    have a1 := lsum_take_le Tm.full f.terms m
    have a2 := lsum_le (f := timesT at_) (g := Tm.full) (f.terms.take m) fun x _ => Nat.le_trans (timesT_le x _) x.size_le_full
    omega
  have hle2 : ∀ m, ((f.args.take m).map (timesF (upF f.kind at_))).sum ≤ (f.args.map Fm.full).sum := fun m => by
    have a1 := lsum_take_le Fm.full f.args m
    have a2 := lsum_le (f := timesF (upF f.kind at_)) (g := Fm.full) (f.args.take m) fun x _ => Nat.le_trans (timesF_le _ x) x.size_le_full
    omega
  refine AC.mk Tryz.func118 rfl rfl rfl rfl rfl (Nat.le_of_ble_eq_true rfl) ?_
  repeat' (first | ((with_reducible refine D.nil ?_); refine AX.nilL ?_) | ((with_reducible refine D.load ?_); refine L.ldb U U U U U U ?_) | ((with_reducible refine D.move ?_); refine L.mv U U U ?_) | ((with_reducible refine D.fieldAddr ?_); refine L.fab U U U U U ?_) | ((with_reducible refine D.assign ?_); refine L.asg U U U ?_) | ((with_reducible refine D.call ?_); refine L.lnt U U U U ?_) | ((with_reducible refine D.box ?_); refine L.bx U U U U ?_) | ((with_reducible refine D.aw ?_); first | refine K.sq (AW.regL ?_) | refine K.sq (K.sq ?_) | refine AW.regL ?_) | with_reducible refine K.tN ?_)
  refine AW.range f.terms.length (fun m => True)
    (fun m => ([(1, .i at_), (2, .ptr 0 0), (5, .i (((f.terms.take m).map (timesT at_)).sum : Nat)), (11, .s .tm f.terms), (12, .i f.terms.length), (13, .i m)], ⟨1, [(0, .var f.view)]⟩))
    (by omega) (fun m => rfl) (fun m => rfl) U trivial (Weak.mk [some 0] _ _ _ U U U U (by (repeat' (first | exact trivial | refine And.intro ?_ ?_ | refine ⟨_, U, _, U, ?_⟩ | exact VLe.refl _)); done) (by (repeat' (first | exact trivial | refine And.intro ?_ ?_ | refine ⟨_, U, _, U, _, U, ?_⟩ | exact VLe.refl _)); done)) ?_ ?_
  · intro m hm _
    have hs1 := lsum_take (timesT at_) f.terms m hm
    have hs2 := lsum_mem Tm.full (List.getElem_mem hm)
    have hs3 := hle1 m
    have hs4 := timesT_le f.terms[m] at_
    have hs5 := f.terms[m].size_le_full
    have hc := rtimes_c _ f.terms[m] at_ (Nat.le_refl _) (by omega) (by omega) (by omega) (fshape_terms hs (List.getElem_mem hm))
    repeat' (first | ((with_reducible refine D.nil ?_); refine AX.nilL ?_) | ((with_reducible refine D.load ?_); first | refine L.ldb U U U U U U ?_ | refine L.lda U U U U U ?_) | ((with_reducible refine D.move ?_); refine L.mv U U U ?_) | ((with_reducible refine D.assign ?_); refine L.asg U U U ?_) | ((with_reducible refine D.bin ?_); refine L.ad U U U U (by omega) ?_) | ((with_reducible refine D.call ?_); refine L.c2 (hc) U U U U ?_) | ((with_reducible refine D.alloc ?_); refine L.al U U U ?_) | ((with_reducible refine D.store ?_); refine L.st U U U U U U U U U ?_) | ((with_reducible refine D.indexAddr ?_); refine L.ixt _ U U U U U U U (by assumption) ?_) | ((with_reducible refine D.aw ?_); first | refine K.sq (AW.regL ?_) | refine AW.regL ?_) | with_reducible refine K.tN ?_ | with_reducible refine K.bN ?_)
    refine ⟨rfl, trivial, ?_⟩
    simp only [hs1]
    exact (Weak.mk [some 0] _ _ _ U U U U (by (repeat' (first | exact trivial | refine And.intro ?_ ?_ | refine ⟨_, U, _, U, ?_⟩ | exact VLe.refl _)); done) (by (repeat' (first | exact trivial | refine And.intro ?_ ?_ | refine ⟨_, U, _, U, _, U, ?_⟩ | exact VLe.refl _)); done))
  · intro _
    have hs6 := hle1 f.terms.length
    simp only [List.take_length] at hs6 ⊢
    repeat' (first | ((with_reducible refine D.nil ?_); refine AX.nilL ?_) | ((with_reducible refine D.load ?_); refine L.ldb U U U U U U ?_) | ((with_reducible refine D.move ?_); refine L.mv U U U ?_) | ((with_reducible refine D.fieldAddr ?_); refine L.fab U U U U U ?_) | ((with_reducible refine D.call ?_); refine L.lnt U U U U ?_) | ((with_reducible refine D.aw ?_); first | refine K.sq (K.sq ?_) | refine AW.regL ?_) | with_reducible refine K.tN ?_)
    refine AW.range f.args.length (fun m => True)
      (fun m => ([(1, .i at_), (2, .ptr 0 0), (5, .i ((f.terms.map (timesT at_)).sum + ((f.args.take m).map (timesF (upF f.kind at_))).sum : Nat)), (24, .s .fm f.args), (25, .i f.args.length), (26, .i m)], ⟨1, [(0, .var f.view)]⟩))
      (by omega) (fun m => rfl) (fun m => rfl) U trivial (Weak.mk [some 0] _ _ _ U U U U (by (repeat' (first | exact trivial | refine And.intro ?_ ?_ | refine ⟨_, U, _, U, ?_⟩ | exact VLe.refl _)); done) (by (repeat' (first | exact trivial | refine And.intro ?_ ?_ | refine ⟨_, U, _, U, _, U, ?_⟩ | exact VLe.refl _)); done)) ?_ ?_
    · intro m hm _
      have hs1 := lsum_take (timesF (upF f.kind at_)) f.args m hm
      have hs2 := lsum_mem Fm.full (List.getElem_mem hm)
      have hs3 := hle2 m
      have hs4 := timesF_le (upF f.kind at_) f.args[m]
      have hs5 := f.args[m].size_le_full
      have hc := ih f.args[m] (upF f.kind at_) (by omega) (by omega) (by omega) (by omega) (fshape_args hs (List.getElem_mem hm))
      rw [← hpl] at hc hs1 hs3 hs4
      simp only [← hpl]
      repeat' (first | ((with_reducible refine D.nil ?_); first | refine AX.nilL ?_ | refine AX.nilD (by kernel_rfl) ?_) | ((with_reducible refine D.load ?_); first | refine L.ldb U U U U U U ?_ | refine L.lda U U U U U ?_) | ((with_reducible refine D.move ?_); refine L.mv U U U ?_) | ((with_reducible refine D.assign ?_); refine L.asg U U U ?_) | ((with_reducible refine D.bin ?_); refine L.ad U U U U (by omega) ?_) | ((with_reducible refine D.call ?_); first | refine L.c2 (hb) U U U U ?_ | refine L.c2 (hc) U U U U ?_) | ((with_reducible refine D.alloc ?_); refine L.al U U U ?_) | ((with_reducible refine D.store ?_); refine L.st U U U U U U U U U ?_) | ((with_reducible refine D.indexAddr ?_); refine L.ixt _ U U U U U U U (by assumption) ?_) | ((with_reducible refine D.aw ?_); first | refine K.sq (AW.regL ?_) | refine AW.regD mixed (by kernel_rfl) ?_) | with_reducible refine K.tN ?_ | with_reducible refine K.bN ?_)
      refine ⟨rfl, trivial, ?_⟩
      simp only [hs1]
      exact (Weak.mk [some 0] _ _ _ U U U U (by (repeat' (first | exact trivial | refine And.intro ?_ ?_ | refine ⟨_, U, _, U, ?_⟩ | exact VLe.refl _ | exact VLe.of_eq (by simp [Sto.upd, Int.natCast_add, Int.add_assoc]))); done) (by (repeat' (first | exact trivial | refine And.intro ?_ ?_ | refine ⟨_, U, _, U, _, U, ?_⟩ | exact VLe.refl _)); done))
    · intro _
      simp only [List.take_length]
      repeat' (first | ((with_reducible refine D.nil ?_); refine AX.nilL ?_) | ((with_reducible refine D.move ?_); refine L.mv U U U ?_) | ((with_reducible refine D.assign ?_); refine L.asg U U U ?_) | ((with_reducible refine D.aw ?_); first | refine K.sq (AW.regL ?_) | refine AW.ret ?_) | with_reducible refine K.tN ?_ | with_reducible refine K.r1 (by with_unfolding_all rfl) (by with_unfolding_all rfl) ?_)
      rw [he]
      rfl
theorem rleastF_c (most : Int) (h0 : 0 ≤ most) : ∀ (n : Nat) (f : Fm), f.full ≤ n → n < 549755813888 → f.shape = true → PC E 61 [.agg f.view, .i most] (.bool (leastF most f)) := by
  intro n
  induction n with
  | zero => intro f h; have := f.full_pos; omega
  | succ n ih =>
  intro f hsz hn hs
  have hsz' := f.full_eq
  have hlen := lsum_len Fm.full Fm.full_pos f.args
  have hlen2 := lsum_len Tm.full Tm.full_pos f.terms
  have he := leastF_eq most f
  refine AC.mk Tryz.func61 rfl rfl rfl rfl rfl (Nat.le_of_ble_eq_true rfl) ?_
  repeat' (first | ((with_reducible refine D.nil ?_); refine AX.nilL ?_) | ((with_reducible refine D.load ?_); refine L.ldb U U U U U U ?_) | ((with_reducible refine D.move ?_); refine L.mv U U U ?_) | ((with_reducible refine D.fieldAddr ?_); refine L.fab U U U U U ?_) | ((with_reducible refine D.assign ?_); refine L.asg U U U ?_) | ((with_reducible refine D.call ?_); refine L.lnt U U U U ?_) | ((with_reducible refine D.box ?_); refine L.bx U U U U ?_) | ((with_reducible refine D.aw ?_); first | refine K.sq (AW.regL ?_) | refine K.sq (K.sq ?_) | refine AW.regL ?_) | with_reducible refine K.tN ?_)
  refine AW.range f.terms.length (fun m => ∀ j (hj : j < f.terms.length), j < m → leastT most f.terms[j] = true)
    (fun m => ([(1, .i most), (2, .ptr 0 0), (10, .s .tm f.terms), (11, .i f.terms.length), (12, .i m)], ⟨1, [(0, .var f.view)]⟩))
    (by omega) (fun m => rfl) (fun m => rfl) U (fun j hj h => by omega) (Weak.mk [some 0] _ _ _ U U U U (by (repeat' (first | exact trivial | refine And.intro ?_ ?_ | refine ⟨_, U, _, U, ?_⟩ | exact VLe.refl _)); done) (by (repeat' (first | exact trivial | refine And.intro ?_ ?_ | refine ⟨_, U, _, U, _, U, ?_⟩ | exact VLe.refl _)); done)) ?_ ?_
  · intro m hm hP
    have hs2 := lsum_mem Tm.full (List.getElem_mem hm)
    have hc := rleast_c most h0 _ f.terms[m] (Nat.le_refl _) (by omega) (fshape_terms hs (List.getElem_mem hm))
    repeat' (first | ((with_reducible refine D.nil ?_); refine AX.nilL ?_) | ((with_reducible refine D.load ?_); first | refine L.ldb U U U U U U ?_ | refine L.lda U U U U U ?_) | ((with_reducible refine D.move ?_); refine L.mv U U U ?_) | ((with_reducible refine D.assign ?_); refine L.asg U U U ?_) | ((with_reducible refine D.call ?_); refine L.c2 (hc) U U U U ?_) | ((with_reducible refine D.alloc ?_); refine L.al U U U ?_) | ((with_reducible refine D.store ?_); refine L.st U U U U U U U U U ?_) | ((with_reducible refine D.indexAddr ?_); refine L.ixt _ U U U U U U U (by assumption) ?_) | ((with_reducible refine D.not ?_); refine L.nt U U U ?_) | ((with_reducible refine D.aw ?_); first | refine K.sq (AW.regL ?_) | refine AW.condS U (fun h => ?_) (fun h => ?_) | refine AW.skip ?_ | refine AW.ret ?_) | with_reducible refine K.tN ?_ | with_reducible refine K.bN ?_ | with_reducible refine K.tR ?_ | with_reducible refine K.bR ?_ | with_reducible refine K.gR ?_ | with_reducible refine K.r1 (by with_unfolding_all rfl) (by with_unfolding_all rfl) ?_)
    · have hx : leastT most f.terms[m] = false := by simpa using h
      rw [he, all_not (leastT most) hm hx]; rfl
    · have hx : leastT most f.terms[m] = true := by simpa using h
      exact ⟨rfl, all_step (p := fun t => leastT most t = true) hm hP hx, (Weak.mk [some 0] _ _ _ U U U U (by (repeat' (first | exact trivial | refine And.intro ?_ ?_ | refine ⟨_, U, _, U, ?_⟩ | exact VLe.refl _)); done) (by (repeat' (first | exact trivial | refine And.intro ?_ ?_ | refine ⟨_, U, _, U, _, U, ?_⟩ | exact VLe.refl _)); done))⟩
  · intro hP
    rw [all_of (leastT most) f.terms fun j hj => hP j hj hj, Bool.true_and] at he
    repeat' (first | ((with_reducible refine D.nil ?_); refine AX.nilL ?_) | ((with_reducible refine D.load ?_); refine L.ldb U U U U U U ?_) | ((with_reducible refine D.move ?_); refine L.mv U U U ?_) | ((with_reducible refine D.fieldAddr ?_); refine L.fab U U U U U ?_) | ((with_reducible refine D.call ?_); refine L.lnt U U U U ?_) | ((with_reducible refine D.aw ?_); first | refine K.sq (K.sq ?_) | refine AW.regL ?_) | with_reducible refine K.tN ?_)
    refine AW.range f.args.length (fun m => ∀ j (hj : j < f.args.length), j < m → leastF most f.args[j] = true)
      (fun m => ([(1, .i most), (2, .ptr 0 0), (22, .s .fm f.args), (23, .i f.args.length), (24, .i m)], ⟨1, [(0, .var f.view)]⟩))
      (by omega) (fun m => rfl) (fun m => rfl) U (fun j hj h => by omega) (Weak.mk [some 0] _ _ _ U U U U (by (repeat' (first | exact trivial | refine And.intro ?_ ?_ | refine ⟨_, U, _, U, ?_⟩ | exact VLe.refl _)); done) (by (repeat' (first | exact trivial | refine And.intro ?_ ?_ | refine ⟨_, U, _, U, _, U, ?_⟩ | exact VLe.refl _)); done)) ?_ ?_
    · intro m hm hP
      have hs2 := lsum_mem Fm.full (List.getElem_mem hm)
      have hc := ih f.args[m] (by omega) (by omega) (fshape_args hs (List.getElem_mem hm))
      repeat' (first | ((with_reducible refine D.nil ?_); refine AX.nilL ?_) | ((with_reducible refine D.load ?_); first | refine L.ldb U U U U U U ?_ | refine L.lda U U U U U ?_) | ((with_reducible refine D.move ?_); refine L.mv U U U ?_) | ((with_reducible refine D.assign ?_); refine L.asg U U U ?_) | ((with_reducible refine D.call ?_); refine L.c2 (hc) U U U U ?_) | ((with_reducible refine D.alloc ?_); refine L.al U U U ?_) | ((with_reducible refine D.store ?_); refine L.st U U U U U U U U U ?_) | ((with_reducible refine D.indexAddr ?_); refine L.ixt _ U U U U U U U (by assumption) ?_) | ((with_reducible refine D.not ?_); refine L.nt U U U ?_) | ((with_reducible refine D.aw ?_); first | refine K.sq (AW.regL ?_) | refine AW.condS U (fun h => ?_) (fun h => ?_) | refine AW.skip ?_ | refine AW.ret ?_) | with_reducible refine K.tN ?_ | with_reducible refine K.bN ?_ | with_reducible refine K.tR ?_ | with_reducible refine K.bR ?_ | with_reducible refine K.gR ?_ | with_reducible refine K.r1 (by with_unfolding_all rfl) (by with_unfolding_all rfl) ?_)
      · have hx : leastF most f.args[m] = false := by simpa using h
        rw [he, all_not (leastF most) hm hx]; rfl
      · have hx : leastF most f.args[m] = true := by simpa using h
        exact ⟨rfl, all_step (p := fun t => leastF most t = true) hm hP hx, (Weak.mk [some 0] _ _ _ U U U U (by (repeat' (first | exact trivial | refine And.intro ?_ ?_ | refine ⟨_, U, _, U, ?_⟩ | exact VLe.refl _)); done) (by (repeat' (first | exact trivial | refine And.intro ?_ ?_ | refine ⟨_, U, _, U, _, U, ?_⟩ | exact VLe.refl _)); done))⟩
    · intro hP
      rw [he, all_of (leastF most) f.args fun j hj => hP j hj hj]
      repeat' (first | ((with_reducible refine D.nil ?_); refine AX.nilL ?_) | ((with_reducible refine D.assign ?_); refine L.asg U U U ?_) | ((with_reducible refine D.aw ?_); first | refine K.sq (AW.regL ?_) | refine AW.ret ?_) | with_reducible refine K.tN ?_ | with_reducible refine K.r1 (by with_unfolding_all rfl) (by with_unfolding_all rfl) ?_)
      rfl
end Go.Ab
namespace Go.Ab
open Go Go.Proofs
set_option maxRecDepth 100000
set_option maxHeartbeats 4000000
set_option linter.all false
theorem keyAt_none {k : Int} : ∀ {l : List Int}, k ∉ l → keyAt k l = none
  | [], _ => rfl
  | x :: l, h => by
    have h1 : ¬ x = k := fun e => h (by simp [e])
    have h2 : k ∉ l := fun hm => h (by simp [hm])
    simp only [keyAt, if_neg h1, keyAt_none h2, Option.map_none]
theorem keyAt_mem {k : Int} : ∀ {l : List Int}, k ∈ l → ∃ i, keyAt k l = some i
  | [], h => by cases h
  | x :: l, h => by
    by_cases h1 : x = k
    · exact ⟨0, by simp only [keyAt, if_pos h1]⟩
    · obtain ⟨i, hi⟩ := keyAt_mem (l := l) (by
        rcases List.mem_cons.1 h with h2 | h2
        · exact absurd h2.symm h1
        · exact h2)
      exact ⟨i + 1, by simp only [keyAt, if_neg h1, hi, Option.map_some]⟩
theorem lowered_c (t : Tm) (b : Int) (hb : 0 ≤ b ∧ b < 549755813888) (hs : t.shape = true) (hf : t.full < 137438953472) (hC : ∀ q ∈ t.vars 0, q.1 ≤ 268435456) : PC E 144 [.agg t.view, .i b] (.tup [.agg (low b.toNat t).1.view, .bool (low b.toNat t).2]) := by
  have hbn : (b.toNat : Int) = b := by omega
  refine AC.mk Tryz.func144 rfl rfl rfl rfl rfl (Nat.le_of_ble_eq_true rfl) ?_
  repeat' (first | ((with_reducible refine D.nil ?_); refine AX.nilL ?_) | ((with_reducible refine D.move ?_); refine L.mv U U U ?_) | ((with_reducible refine D.assign ?_); refine L.asg U U U ?_) | ((with_reducible refine D.box ?_); refine L.bx U U U U ?_) | ((with_reducible refine D.alloc ?_); refine L.al U U U ?_) | ((with_reducible refine D.aw ?_); first | refine K.sq (AW.regL ?_) | refine K.sq (K.sq ?_) | refine AW.regL ?_) | with_reducible refine K.tN ?_)
  refine AW.range b.toNat (fun m => ∀ j, j < m → cnt 0 ((lowI j t).vars 0) = 0)
    (fun m => ([(2, .ptr 0 0), (4, .ptr 1 0), (6, .i b), (7, .i m)], ⟨2, [(0, .var (lowI m t).view), (1, .var [.i 0, .i 0, .i 0, .slice .nil (.t .ty []), .slice .nil (.t .tm [])])]⟩))
    (by omega) (fun m => rfl) (fun m => by rw [← hbn]; rfl) U (by intro j hj; omega) (Weak.mk [some 0, some 1] _ _ _ U U U U (by (repeat' (first | exact trivial | refine And.intro ?_ ?_ | refine ⟨_, U, _, U, ?_⟩ | exact VLe.refl _)); done) (by (repeat' (first | exact trivial | refine And.intro ?_ ?_ | refine ⟨_, U, _, U, _, U, ?_⟩ | exact VLe.refl _)); done)) ?_ ?_
  · intro m hm hP
    obtain ⟨h1, h2, h3⟩ := lowI_ok hs hC m hP
    have hc := count_c (lowI m t) 0 (by omega) fun p hp => ⟨(lowI m t).vars_nonneg h1 0 p hp, by have := h3 p hp; omega⟩
    have hp := put_c (lowI m t) 0 noTm (by omega) (by decide) (by intro p hp; simp [noTm, Tm.vars, Tm.varss] at hp) (by omega) fun p hp => ⟨(lowI m t).vars_nonneg h1 0 p hp, by have := h3 p hp; omega⟩
    repeat' (first | ((with_reducible refine D.nil ?_); refine AX.nilL ?_) | ((with_reducible refine D.load ?_); refine L.ldb U U U U U U ?_) | ((with_reducible refine D.assign ?_); refine L.asg U U U ?_) | ((with_reducible refine D.bin ?_); refine L.bn U U U U U ?_) | ((with_reducible refine D.call ?_); first | refine L.c2 (hc) U U U U ?_ | refine L.c2 (hp) U U U U ?_) | ((with_reducible refine D.store ?_); refine L.st U U U U U U U U U ?_) | ((with_reducible refine D.ax ?_); refine L.bd U U U U U ?_) | ((with_reducible refine D.aw ?_); first | refine K.sq (AW.regL ?_) | refine K.sq (K.sq ?_) | refine AW.regL ?_ | refine AW.condS U (fun h => ?_) (fun h => ?_) | refine AW.skip ?_ | refine AW.ret ?_) | with_reducible refine K.tN ?_ | with_reducible refine K.bN ?_ | with_reducible refine K.tR ?_ | with_reducible refine K.bR ?_ | with_reducible refine K.gR ?_ | with_reducible refine K.r1 (by with_unfolding_all rfl) (by with_unfolding_all rfl) ?_)
    · have e : low b.toNat t = (noTm, false) := by
        simp only [low]
        rw [if_neg]
        intro hc
        have := hc m hm
        simp at h; omega
      rw [e]
      simp [tupV, V.wk, V.wks, constV, Ty.view, Tm.view, noTm]
    · refine ⟨rfl, ?_, (Weak.mk [some 0, some 1] _ _ _ U U U U (by (repeat' (first | exact trivial | refine And.intro ?_ ?_ | refine ⟨_, U, _, U, ?_⟩ | exact VLe.refl _)); done) (by (repeat' (first | exact trivial | refine And.intro ?_ ?_ | refine ⟨_, U, _, U, _, U, ?_⟩ | exact VLe.refl _)); done))⟩
      intro j hj
      by_cases hjm : j = m
      · subst hjm; simp at h; omega
      · exact hP j (by omega)
  · intro hP
    have e : low b.toNat t = (lowI b.toNat t, true) := by simp only [low]; rw [if_pos hP]
    rw [e]
    repeat' (first | ((with_reducible refine D.nil ?_); refine AX.nilL ?_) | ((with_reducible refine D.load ?_); refine L.ldb U U U U U U ?_) | ((with_reducible refine D.assign ?_); refine L.asg U U U ?_) | ((with_reducible refine D.store ?_); refine L.st U U U U U U U U U ?_) | ((with_reducible refine D.aw ?_); first | refine K.sq (AW.regL ?_) | refine AW.ret ?_) | with_reducible refine K.tN ?_ | with_reducible refine K.r1 (by with_unfolding_all rfl) (by with_unfolding_all rfl) ?_)
    simp [tupV, V.wk, V.wks, constV, Ty.view, Tm.view]
end Go.Ab
namespace Go.Ab
open Go Go.Proofs
set_option maxRecDepth 100000
set_option maxHeartbeats 4000000
set_option linter.all false
theorem ibeq (a b : Int) : (a == b) = decide (a = b) := by by_cases h : a = b <;> simp [h]
theorem termM_c (ho : Int) (hh : 0 ≤ ho ∧ ho ≤ 4096) : ∀ (n : Nat) (p t : Tm) (m : FMap) (b : Int), p.full ≤ n → n < 137438953472 → 0 ≤ b → b + n < 274877906944 → p.shape = true → t.shape = true → t.full < 137438953472 →
    (∀ q ∈ p.vars 0, q.1 ≤ 268435456) → (∀ q ∈ t.vars 0, q.1 ≤ 268435456) →
    AC E 105 [.ptr 0 0, .agg p.view, .agg t.view, .i b] ⟨2, [(0, .var [.i ho, .mp 1]), (1, .map .tm (m.map (·.1)) (m.map (·.2)))]⟩ (.bool (mT ho b p t m).1)
      ⟨2, [(0, .var [.i ho, .mp 1]), (1, .map .tm ((mT ho b p t m).2.map (·.1)) ((mT ho b p t m).2.map (·.2)))]⟩ := by
  intro n
  induction n with
  | zero => intro p; intros; have := p.full_pos; omega
  | succ n ih =>
  intro p t m b hsz hn hb hbn hps hts htf hpv htv
  have hsz' := p.full_eq
  have hlen := lsum_len Tm.full Tm.full_pos p.args
  have hmt := mT_eq ho b p t m
  have hpi : 0 ≤ p.index ∧ p.index ≤ 268435456 := by
    have h0 := shape_index hps
    by_cases hk : p.kind = 1
    · have h1 : (p.index, (0 : Int)) ∈ p.vars 0 := by rw [p.vars_eq, if_pos hk]; simp
      exact ⟨h0.1, hpv _ h1⟩
    · have := h0.2 hk; omega
  have hlow := lowered_c t b (by omega) hts htf htv
  have hty := sameTy2_c _ p.ty t.ty (Nat.le_refl _) (by omega)
  refine AC.mk Tryz.func105 rfl rfl rfl rfl rfl (Nat.le_of_ble_eq_true rfl) ?_
  repeat' (first | ((with_reducible refine D.nil ?_); refine AX.nilL ?_) | ((with_reducible refine D.load ?_); refine L.ldb U U U U U U ?_) | ((with_reducible refine D.move ?_); refine L.mv U U U ?_) | ((with_reducible refine D.fieldAddr ?_); refine L.fab U U U U U ?_) | ((with_reducible refine D.assign ?_); refine L.asg U U U ?_) | ((with_reducible refine D.bin ?_); refine L.sb U U U U (by omega) ?_) | ((with_reducible refine D.box ?_); refine L.bx U U U U ?_) | ((with_reducible refine D.aw ?_); (fail_if_success with_reducible refine D.stopR (id := 2) ?_); (fail_if_success with_reducible refine D.stopS (id := 2) ?_); first | refine K.sq (AW.regL ?_) | refine K.sq (K.sq ?_) | refine AW.regL ?_) | with_reducible refine K.tN ?_)
  refine AW.cut (ι := Unit) (fun _ => ([(0, .ptr 0 0), (3, .i b), (5, .ptr 2 0), (6, .ptr 3 0), (9, .i (p.index - b)), (34, .bool (decide (p.kind = 1 ∧ 0 ≤ p.index - b ∧ p.index - b < ho)))], ⟨4, [(0, .var [.i ho, .mp 1]), (1, .map .tm (m.map (·.1)) (m.map (·.2))), (2, .var p.view), (3, .var t.view)]⟩)) ?_ ?_
  · clear ih hmt hlow hty hpv htv hsz'
    repeat' (first | ((with_reducible refine D.nil ?_); refine AX.nilL ?_) | ((with_reducible refine D.load ?_); first | refine L.ldb U U U U U U ?_ | refine AX.sk U U ?_) | ((with_reducible refine D.move ?_); first | refine L.mv U U U ?_ | refine AX.sk U U ?_ | ((fail_if_success refine AX.wt U ?_); refine AX.gs U U (fun _ => trivial) (fun h => ?_) (fun h => ?_))) | ((with_reducible refine D.fieldAddr ?_); first | refine L.fab U U U U U ?_ | refine AX.sk U U ?_) | ((with_reducible refine D.bin ?_); first | refine L.bn U U U U U ?_ | refine AX.sk U U ?_) | ((with_reducible refine D.pick ?_); refine L.pk U U U U ?_) | ((with_reducible refine D.ax ?_); first | refine L.nc U U U U ?_ | refine AX.sk U U ?_) | ((with_reducible refine D.aw ?_); refine AW.regL ?_))
    · rename_i h0
      simp only [beq_iff_eq, decide_eq_true_eq] at h0 h
      have e : decide (p.kind = 1 ∧ 0 ≤ p.index - b ∧ p.index - b < ho) = decide (p.index - b < ho) := decide_eq_decide.2 (by omega)
      rw [e]
      exact ⟨(), (Weak.mk [some 0, some 1, some 2, some 3] _ _ _ U U U U (by (repeat' (first | exact trivial | refine And.intro ?_ ?_ | refine ⟨_, U, _, U, ?_⟩ | exact VLe.refl _)); done) (by (repeat' (first | exact trivial | refine And.intro ?_ ?_ | refine ⟨_, U, _, U, _, U, ?_⟩ | exact VLe.refl _ | refine ⟨_, U, _, _, U, ?_, ?_⟩ | with_reducible exact rfl)); done))⟩
    · simp only [decide_eq_false_iff_not] at h
      have e : decide (p.kind = 1 ∧ 0 ≤ p.index - b ∧ p.index - b < ho) = false := decide_eq_false (by omega)
      rw [e]
      exact ⟨(), (Weak.mk [some 0, some 1, some 2, some 3] _ _ _ U U U U (by (repeat' (first | exact trivial | refine And.intro ?_ ?_ | refine ⟨_, U, _, U, ?_⟩ | exact VLe.refl _)); done) (by (repeat' (first | exact trivial | refine And.intro ?_ ?_ | refine ⟨_, U, _, U, _, U, ?_⟩ | exact VLe.refl _ | refine ⟨_, U, _, _, U, ?_, ?_⟩ | with_reducible exact rfl)); done))⟩
    · simp only [beq_eq_false_iff_ne, ne_eq] at h
      have e : decide (p.kind = 1 ∧ 0 ≤ p.index - b ∧ p.index - b < ho) = false := decide_eq_false (by omega)
      rw [e]
      exact ⟨(), (Weak.mk [some 0, some 1, some 2, some 3] _ _ _ U U U U (by (repeat' (first | exact trivial | refine And.intro ?_ ?_ | refine ⟨_, U, _, U, ?_⟩ | exact VLe.refl _)); done) (by (repeat' (first | exact trivial | refine And.intro ?_ ?_ | refine ⟨_, U, _, U, _, U, ?_⟩ | exact VLe.refl _ | refine ⟨_, U, _, _, U, ?_, ?_⟩ | with_reducible exact rfl)); done))⟩
  intro _
  by_cases hhole : p.kind = 1 ∧ 0 ≤ p.index - b ∧ p.index - b < ho
  · rw [if_pos hhole] at hmt
    have hd : decide (p.kind = 1 ∧ 0 ≤ p.index - b ∧ p.index - b < ho) = true := decide_eq_true hhole
    rw [hd]
    by_cases hmem : (p.index - b) ∈ m.map (·.1)
    · rw [if_pos hmem] at hmt
      obtain ⟨i, hi⟩ := keyAt_mem hmem
      have hil : i < m.length := by have := (keyAt_some hi).2; simpa using this
      have hc0 : (m.map (·.2))[i]? = some (m[i]).2 := by rw [List.getElem?_map, List.getElem?_eq_getElem hil]; rfl
      rw [hmt]
      repeat' (first | ((with_reducible refine D.nil ?_); refine AX.nilL ?_) | ((with_reducible refine D.load ?_); refine L.ldb U U U U U U ?_) | ((with_reducible refine D.move ?_); refine L.mv U U U ?_) | ((with_reducible refine D.fieldAddr ?_); refine L.fab U U U U U ?_) | ((with_reducible refine D.assign ?_); refine L.asg U U U ?_) | ((with_reducible refine D.extract ?_); refine L.ex U U U U ?_) | ((with_reducible refine D.alloc ?_); refine L.al U U U ?_) | ((with_reducible refine D.store ?_); refine L.st U U U U U U U U U ?_) | ((with_reducible refine D.ax ?_); first | refine L.nc U U U U ?_ | refine L.lkuT U U U U U U (by first | assumption | rfl) (by first | assumption | rfl) U ?_) | ((with_reducible refine D.aw ?_); first | refine K.sq (AW.regL ?_) | refine K.sq (K.sq ?_) | refine AW.regL ?_ | refine AW.condT U ?_ | refine AW.ret ?_) | with_reducible refine K.tN ?_ | with_reducible refine K.tR ?_)
      (exact K.n2 [some 0, some 1] U U U U U (by (repeat' (first | exact trivial | refine And.intro ?_ ?_ | refine ⟨_, U, _, U, _, U, ?_⟩ | exact VLe.refl _ | refine ⟨_, U, _, _, U, ?_, ?_⟩ | with_reducible exact rfl)); done) U (by simp [tupV, V.wk, V.wks, constV, Ty.view, Tm.view, hmt]))
    · rw [if_neg hmem] at hmt
      have hi := keyAt_none hmem
      rw [hmt]
      repeat' (first | ((with_reducible refine D.nil ?_); first | refine AX.nilL ?_ | refine AX.nilD (by kernel_rfl) ?_) | ((with_reducible refine D.load ?_); refine L.ldb U U U U U U ?_) | ((with_reducible refine D.move ?_); refine L.mv U U U ?_) | ((with_reducible refine D.fieldAddr ?_); refine L.fab U U U U U ?_) | ((with_reducible refine D.assign ?_); refine L.asg U U U ?_) | ((with_reducible refine D.call ?_); refine L.c2 (hlow) U U U U ?_) | ((with_reducible refine D.extract ?_); refine L.ex U U U U ?_) | ((with_reducible refine D.alloc ?_); refine L.al U U U ?_) | ((with_reducible refine D.store ?_); refine L.st U U U U U U U U U ?_) | ((with_reducible refine D.ax ?_); first | refine L.nc U U U U ?_ | refine L.lkn U U U U U U (by first | assumption | rfl) U U U ?_ | refine L.muT U U U U U U (EC.fold_of U) U U ?_) | ((with_reducible refine D.aw ?_); first | refine K.sq (AW.regL ?_) | refine K.sq (AW.regD mixed (by kernel_rfl) ?_) | refine K.sq (K.sq ?_) | refine AW.regL ?_ | refine AW.condT U ?_ | refine AW.condF U ?_ | refine AW.skip ?_ | refine AW.ret ?_) | with_reducible refine K.tN ?_ | with_reducible refine K.tR ?_)
      (exact K.n2 [some 0, some 1] U U U U U (by (repeat' (first | exact trivial | refine And.intro ?_ ?_ | refine ⟨_, U, _, U, _, U, ?_⟩ | exact VLe.refl _ | refine ⟨_, U, _, _, U, ?_, ?_⟩ | (simp [Sto.upd, hmt, putKs, putCs, hi]; done))); done) U (by simp [tupV, V.wk, V.wks, constV, Ty.view, Tm.view, hmt, putKs, putCs, hi]))
  rw [if_neg hhole] at hmt
  have hd : decide (p.kind = 1 ∧ 0 ≤ p.index - b ∧ p.index - b < ho) = false := decide_eq_false hhole
  rw [hd]
  repeat' (first | ((with_reducible refine D.aw ?_); (fail_if_success with_reducible refine D.stopR (id := 9) ?_); (fail_if_success with_reducible refine D.stopS (id := 9) ?_); first | refine AW.condF U ?_ | refine AW.skip ?_) | with_reducible refine K.tN ?_)
  refine K.sq ?_
  refine AW.cut (ι := Unit) (fun _ => ([(0, .ptr 0 0), (3, .i b), (5, .ptr 2 0), (6, .ptr 3 0), (70, .bool (!decide (p.kind = t.kind ∧ p.ty = t.ty)))], ⟨4, [(0, .var [.i ho, .mp 1]), (1, .map .tm (m.map (·.1)) (m.map (·.2))), (2, .var p.view), (3, .var t.view)]⟩)) ?_ ?_
  · clear ih hmt hlow hpv htv hsz'
    repeat' (first | ((with_reducible refine D.nil ?_); refine AX.nilL ?_) | ((with_reducible refine D.load ?_); first | refine L.ldb U U U U U U ?_ | refine AX.sk U U ?_) | ((with_reducible refine D.move ?_); refine L.mv U U U ?_) | ((with_reducible refine D.fieldAddr ?_); first | refine L.fab U U U U U ?_ | refine AX.sk U U ?_ | ((fail_if_success refine AX.wt U ?_); refine AX.gs U U (fun _ => trivial) (fun h => ?_) (fun h => ?_))) | ((with_reducible refine D.bin ?_); refine L.bn U U U U U ?_) | ((with_reducible refine D.call ?_); first | refine L.c2 (hty) U U U U ?_ | refine AX.sk U U ?_) | ((with_reducible refine D.not ?_); first | refine L.nt U U U ?_ | refine AX.sk U U ?_) | ((with_reducible refine D.pick ?_); refine L.pk U U U U ?_) | ((with_reducible refine D.aw ?_); refine AW.regL ?_))
    · have e : (!decide (p.kind = t.kind ∧ p.ty = t.ty)) = true := by
        simp only [bne_iff_ne, ne_eq] at h
        simp [h]
      rw [e]
      exact ⟨(), (Weak.mk [some 0, some 1, some 2, some 3] _ _ _ U U U U (by (repeat' (first | exact trivial | refine And.intro ?_ ?_ | refine ⟨_, U, _, U, ?_⟩ | exact VLe.refl _)); done) (by (repeat' (first | exact trivial | refine And.intro ?_ ?_ | refine ⟨_, U, _, U, _, U, ?_⟩ | exact VLe.refl _ | refine ⟨_, U, _, _, U, ?_, ?_⟩ | with_reducible exact rfl)); done))⟩
    · have e : (!decide (p.kind = t.kind ∧ p.ty = t.ty)) = !decide (p.ty = t.ty) := by
        simp only [bne_eq_false_iff_eq] at h
        simp [h]
      rw [e]
      exact ⟨(), (Weak.mk [some 0, some 1, some 2, some 3] _ _ _ U U U U (by (repeat' (first | exact trivial | refine And.intro ?_ ?_ | refine ⟨_, U, _, U, ?_⟩ | exact VLe.refl _)); done) (by (repeat' (first | exact trivial | refine And.intro ?_ ?_ | refine ⟨_, U, _, U, _, U, ?_⟩ | exact VLe.refl _ | refine ⟨_, U, _, _, U, ?_, ?_⟩ | with_reducible exact rfl)); done))⟩
  intro _
  by_cases hne : ¬ (p.kind = t.kind ∧ p.ty = t.ty)
  · rw [if_neg hne] at hmt
    have hd2 : (!decide (p.kind = t.kind ∧ p.ty = t.ty)) = true := by rw [decide_eq_false hne]; rfl
    rw [hd2, hmt]
    repeat' (first | ((with_reducible refine D.nil ?_); refine AX.nilL ?_) | ((with_reducible refine D.assign ?_); refine L.asg U U U ?_) | ((with_reducible refine D.aw ?_); first | refine K.sq (AW.regL ?_) | refine AW.condT U ?_ | refine AW.ret ?_) | with_reducible refine K.tN ?_ | with_reducible refine K.tR ?_)
    (exact K.n2 [some 0, some 1] U U U U U (by (repeat' (first | exact trivial | refine And.intro ?_ ?_ | refine ⟨_, U, _, U, _, U, ?_⟩ | exact VLe.refl _ | refine ⟨_, U, _, _, U, ?_, ?_⟩ | with_reducible exact rfl)); done) U (by simp [tupV, V.wk, V.wks, constV, Ty.view, Tm.view, hmt]))
  have heq := Classical.not_not.1 hne
  have hd2 : (!decide (p.kind = t.kind ∧ p.ty = t.ty)) = false := by rw [decide_eq_true heq]; rfl
  rw [if_pos heq] at hmt
  rw [hd2]
  have hal := head_args hps hts heq.1
  by_cases hk1 : p.kind = 1
  · rw [if_pos hk1] at hmt
    have hti : 0 ≤ t.index ∧ t.index ≤ 268435456 := by
      have h1 : (t.index, (0 : Int)) ∈ t.vars 0 := by rw [t.vars_eq, if_pos (heq.1 ▸ hk1)]; simp
      exact ⟨(shape_index hts).1, htv _ h1⟩
    rw [hmt]
    repeat' (first | ((with_reducible refine D.nil ?_); first | refine AX.nilL ?_ | refine AX.nilD (by kernel_rfl) ?_) | ((with_reducible refine D.load ?_); refine L.ldb U U U U U U ?_) | ((with_reducible refine D.move ?_); refine L.mv U U U ?_) | ((with_reducible refine D.fieldAddr ?_); refine L.fab U U U U U ?_) | ((with_reducible refine D.assign ?_); refine L.asg U U U ?_) | ((with_reducible refine D.bin ?_); first | refine L.ad U U U U (by omega) ?_ | refine L.sb U U U U (by omega) ?_ | refine L.bn U U U U U ?_) | ((with_reducible refine D.call ?_); refine L.lnt U U U U ?_) | ((with_reducible refine D.ax ?_); refine L.nc U U U U ?_) | ((with_reducible refine D.aw ?_); first | refine K.sq (AW.regL ?_) | refine K.sq (AW.regD mixed (by kernel_rfl) ?_) | refine K.sq (K.sq ?_) | refine AW.regL ?_ | refine AW.condF U ?_ | refine AW.condS U (fun h => ?_) (fun h => ?_) | refine AW.skip ?_ | refine AW.ret ?_) | with_reducible refine K.tN ?_ | with_reducible refine K.tR ?_)
    · have hle : b ≤ p.index := by simpa using h
      (exact K.n2 [some 0, some 1] U U U U U (by (repeat' (first | exact trivial | refine And.intro ?_ ?_ | refine ⟨_, U, _, U, _, U, ?_⟩ | exact VLe.refl _ | refine ⟨_, U, _, _, U, ?_, ?_⟩ | with_reducible exact rfl)); done) U (by simp [tupV, V.wk, V.wks, constV, Ty.view, Tm.view, hle, ibeq]))
    · have hle : ¬ b ≤ p.index := by simpa using h
      (exact K.n2 [some 0, some 1] U U U U U (by (repeat' (first | exact trivial | refine And.intro ?_ ?_ | refine ⟨_, U, _, U, _, U, ?_⟩ | exact VLe.refl _ | refine ⟨_, U, _, _, U, ?_, ?_⟩ | with_reducible exact rfl)); done) U (by simp [tupV, V.wk, V.wks, constV, Ty.view, Tm.view, hle, ibeq]))
    · exfalso; rename_i h0; simp [hk1] at h0
    · exfalso; rename_i h0; simp [hk1] at h0
  rw [if_neg hk1] at hmt
  rw [hmt]
  repeat' (first | ((with_reducible refine D.nil ?_); first | refine AX.nilL ?_ | refine AX.nilD (by kernel_rfl) ?_) | ((with_reducible refine D.load ?_); refine L.ldb U U U U U U ?_) | ((with_reducible refine D.move ?_); refine L.mv U U U ?_) | ((with_reducible refine D.fieldAddr ?_); refine L.fab U U U U U ?_) | ((with_reducible refine D.assign ?_); refine L.asg U U U ?_) | ((with_reducible refine D.bin ?_); first | refine L.ad U U U U (by omega) ?_ | refine L.sb U U U U (by omega) ?_ | refine L.bn U U U U U ?_) | ((with_reducible refine D.call ?_); refine L.lnt U U U U ?_) | ((with_reducible refine D.ax ?_); refine L.nc U U U U ?_) | ((with_reducible refine D.aw ?_); first | refine K.sq (AW.regL ?_) | refine K.sq (AW.regD mixed (by kernel_rfl) ?_) | refine K.sq (K.sq ?_) | refine AW.regL ?_ | refine AW.condF U ?_ | refine AW.condS U (fun h => ?_) (fun h => ?_) | refine AW.skip ?_ | refine AW.ret ?_) | with_reducible refine K.tN ?_ | with_reducible refine K.tR ?_)
  · exfalso; rename_i h0; simp [hk1] at h0
  · exfalso; rename_i h0; simp [hk1] at h0
  all_goals
    refine AW.range p.args.length (fun k => (mTs ho (up p.kind b) (p.args.take k) (t.args.take k) m).1 = true)
      (fun k => ([(0, .ptr 0 0), (3, .i (up p.kind b)), (5, .ptr 2 0), (6, .ptr 3 0), (99, .s .tm p.args), (100, .i p.args.length), (101, .i k)], ⟨4, [(0, .var [.i ho, .mp 1]), (1, .map .tm ((mTs ho (up p.kind b) (p.args.take k) (t.args.take k) m).2.map (·.1)) ((mTs ho (up p.kind b) (p.args.take k) (t.args.take k) m).2.map (·.2))), (2, .var p.view), (3, .var t.view)]⟩))
      (by omega) (fun m => rfl) (fun m => rfl) rfl rfl ?_ ?_ ?_
    · simp only [beq_iff_eq, beq_eq_false_iff_ne, ne_eq] at h
      exact (Weak.mk [some 0, some 1, some 2, some 3] _ _ _ U U U U (by (repeat' (first | exact trivial | refine And.intro ?_ ?_ | refine ⟨_, U, _, U, ?_⟩ | exact VLe.refl _ | exact VLe.of_eq (by simp [Sto.upd, up, h, mTs]))); done) (by (repeat' (first | exact trivial | refine And.intro ?_ ?_ | refine ⟨_, U, _, U, _, U, ?_⟩ | exact VLe.refl _ | refine ⟨_, U, _, _, U, ?_, ?_⟩ | (simp [Sto.upd, up, h, mTs]; done))); done))
    · intro k hk hP
      have hk2 : k < t.args.length := by omega
      have hs2 := lsum_mem Tm.full (List.getElem_mem hk)
      have hs3 := lsum_mem Tm.full (List.getElem_mem hk2)
      have hs4 := t.full_eq
      have hup : up p.kind b ≤ b + 1 := by simp only [up]; split <;> omega
      have hup0 : 0 ≤ up p.kind b := by simp only [up]; split <;> omega
      have hc := ih p.args[k] t.args[k] (mTs ho (up p.kind b) (p.args.take k) (t.args.take k) m).2 (up p.kind b) (by omega) (by omega) hup0 (by omega) (shape_args hps _ (List.getElem_mem hk)) (shape_args hts _ (List.getElem_mem hk2)) (by omega)
        (vars_bd hpv (List.getElem_mem hk)) (vars_bd htv (List.getElem_mem hk2))
      have htk := mTs_take (m := m) hal hk hP
      repeat' (first | ((with_reducible refine D.nil ?_); first | refine AX.nilL ?_ | refine AX.nilD (by kernel_rfl) ?_) | ((with_reducible refine D.load ?_); first | refine L.ldb U U U U U U ?_ | refine L.lda U U U U U ?_) | ((with_reducible refine D.move ?_); refine L.mv U U U ?_) | ((with_reducible refine D.fieldAddr ?_); refine L.fab U U U U U ?_) | ((with_reducible refine D.assign ?_); refine L.asg U U U ?_) | ((with_reducible refine D.call ?_); (apply L.cb2 (hc) [0, 1] 0 rfl; rfl; rfl; rfl; rfl; rfl; rfl; (focus ((repeat' (first | exact trivial | refine And.intro ?_ ?_ | refine ⟨_, U, _, U, _, U, ?_⟩ | exact VLe.refl _ | refine ⟨_, U, _, _, U, ?_, ?_⟩ | with_reducible exact rfl)); done)); rfl; rfl; rfl; rfl)) | ((with_reducible refine D.alloc ?_); refine L.al U U U ?_) | ((with_reducible refine D.store ?_); refine L.st U U U U U U U U U ?_) | ((with_reducible refine D.indexAddr ?_); refine L.ixt _ U U U U U U U (by assumption) ?_) | ((with_reducible refine D.not ?_); refine L.nt U U U ?_) | ((with_reducible refine D.aw ?_); first | refine K.sq (AW.regL ?_) | refine K.sq (AW.regD mixed (by kernel_rfl) ?_) | refine AW.condS U (fun h => ?_) (fun h => ?_) | refine AW.skip ?_ | refine AW.ret ?_) | with_reducible refine K.tN ?_ | with_reducible refine K.bN ?_ | with_reducible refine K.tR ?_ | with_reducible refine K.bR ?_ | with_reducible refine K.gR ?_)
      · have h1 : (mT ho (up p.kind b) p.args[k] t.args[k] (mTs ho (up p.kind b) (p.args.take k) (t.args.take k) m).2).1 = false := by simpa using h
        have e := mTs_stop (m := m) hal hk hP h1
        rw [e]
        (exact K.n2 [some 0, some 1] U U U U U (by (repeat' (first | exact trivial | refine And.intro ?_ ?_ | refine ⟨_, U, _, U, _, U, ?_⟩ | exact VLe.refl _ | refine ⟨_, U, _, _, U, ?_, ?_⟩ | with_reducible exact rfl)); done) U (by simp [tupV, V.wk, V.wks, constV, Ty.view, Tm.view, h1]))
      · have h1 : (mT ho (up p.kind b) p.args[k] t.args[k] (mTs ho (up p.kind b) (p.args.take k) (t.args.take k) m).2).1 = true := by simpa using h
        refine ⟨rfl, by simp only [htk]; exact h1, ?_⟩
        simp only [htk]
        exact (Weak.mk [some 0, some 1, some 2, some 3] _ _ _ U U U U (by (repeat' (first | exact trivial | refine And.intro ?_ ?_ | refine ⟨_, U, _, U, ?_⟩ | exact VLe.refl _)); done) (by (repeat' (first | exact trivial | refine And.intro ?_ ?_ | refine ⟨_, U, _, U, _, U, ?_⟩ | exact VLe.refl _ | refine ⟨_, U, _, _, U, ?_, ?_⟩ | with_reducible exact rfl)); done))
    · intro hP
      have e : mTs ho (up p.kind b) p.args t.args m = (true, (mTs ho (up p.kind b) p.args t.args m).2) := by
        have h1 := hP
        rw [List.take_of_length_le (Nat.le_refl _), List.take_of_length_le (by omega)] at h1
        exact Prod.ext h1 rfl
      rw [List.take_of_length_le (Nat.le_refl _), List.take_of_length_le (show t.args.length ≤ p.args.length by omega)]
      rw [e]
      repeat' (first | ((with_reducible refine D.nil ?_); refine AX.nilL ?_) | ((with_reducible refine D.assign ?_); refine L.asg U U U ?_) | ((with_reducible refine D.aw ?_); first | refine K.sq (AW.regL ?_) | refine AW.ret ?_) | with_reducible refine K.tN ?_)
      (exact K.n2 [some 0, some 1] U U U U U (by (repeat' (first | exact trivial | refine And.intro ?_ ?_ | refine ⟨_, U, _, U, _, U, ?_⟩ | exact VLe.refl _ | refine ⟨_, U, _, _, U, ?_, ?_⟩ | with_reducible exact rfl)); done) U (by simp [tupV, V.wk, V.wks, constV, Ty.view, Tm.view, e]))
end Go.Ab
