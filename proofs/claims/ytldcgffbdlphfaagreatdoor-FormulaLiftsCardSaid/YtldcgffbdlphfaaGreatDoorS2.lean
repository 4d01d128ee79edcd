/- A part of the proofs of this seat's statements: S25, S26, S30, S31, S41, S42, S43, S44, S45, S46, S47. It has no conditions of its own. -/
import Derived.Test.YtldcgffbdlphfaaGreatDoorS1
import Derived.Test.YtldcgffbdlphfaaGreatDoorD1
import Derived.Test.YtldcgffbdlphfaaGreatDoorA2
import Derived.Laws.Entries
namespace Go.Ab
open Go Go.Proofs
set_option maxRecDepth 100000
set_option maxHeartbeats 2000000
set_option linter.all false
theorem plainN_c (k : Int) (h : plainK k = []) : PC E 214 [.i k] (.s .int []) := by
  have := plain_c k
  rwa [h] at this
theorem sameSz_ok (a b : Ty) (ha : a.err = 0) (hb : b.err = 0) : PC E 216 [.agg (ofT a).view, .agg (ofT b).view] (.bool (decide (a = b))) := by
  have := sameSz_c (ofT a) (ofT b) (by have := sz_big ha; show a.size < _; omega)
  rw [show (ofT a).ty = a from rfl, show (ofT b).ty = b from rfl, same_ok ha hb] at this
  exact this
theorem nodes_bd {a : Ty} (h : a.err = 0) : 0 ≤ (ofT a).nodes ∧ (ofT a).nodes < 1099511627776 := by
  have := sz_big h
  simp only [ofT, num_ok h]; omega
theorem node3_c (i : Int) (th : Ty) (ts : List Tm) (x : Ty) (ex : x.err = 0) (y : Ty) (ey : y.err = 0) : PC E 211 [.agg (Tm.mk 3 i th ts).view, .agg (pad3 [x, y])] (.tup [.agg (ofT (rule 3 th [x, y]).1).view, .i (rule 3 th [x, y]).2]) := by
  have hp := plainN_c 3 rfl
  have hi : PC E 202 [.agg (ofT x).view, .i 4] (.bool (x.kind == 4)) := is_c (ofT x) 4
  by_cases hk : x.kind = 4
  · obtain ⟨a, b, hab⟩ := Ty.args_two ((Ty.err_iff x).1 ex).1 (.inr hk)
    have hx : x = funT a b := (Ty.eq_iff _ _).2 ⟨hk, hab⟩
    subst hx
    have ea : a.err = 0 := Ty.err_args ex (by simp)
    have eb : b.err = 0 := Ty.err_args ex (by simp)
    have p0 : PC E 215 [.agg (ofT (funT a b)).view, .i 0] (.agg (ofT a).view) := part_c (ofT (funT a b)) 0 (by simp [ofT]) (by have := sz_big ex; show (funT a b).size < _; omega)
    have p1 : PC E 215 [.agg (ofT (funT a b)).view, .i 1] (.agg (ofT b).view) := part_c (ofT (funT a b)) 1 (by simp [ofT]) (by have := sz_big ex; show (funT a b).size < _; omega)
    have sm := sameSz_ok a y ea ey
    rw [show (Ty.kind (funT a b) == 4) = true from rfl] at hi
    refine AC.mk Tryz.func211 rfl rfl rfl rfl rfl (Nat.le_of_ble_eq_true rfl) ?_
    repeat' (first | ((with_reducible refine D.nil ?_); first | refine AX.nilL ?_ | refine AX.nilD (by kernel_rfl) ?_) | ((with_reducible refine D.load ?_); refine L.ldb U U U U U U ?_) | ((with_reducible refine D.move ?_); refine L.mv U U U ?_) | ((with_reducible refine D.fieldAddr ?_); refine L.fab U U U U U ?_) | ((with_reducible refine D.assign ?_); refine L.asg U U U ?_) | ((with_reducible refine D.bin ?_); refine L.bn U U U U U ?_) | ((with_reducible refine D.call ?_); first | refine L.lnt U U U U ?_ | refine L.c2 (hp) U U U U ?_ | refine L.c2 (hi) U U U U ?_ | refine L.c2 (p0) U U U U ?_ | refine L.c2 (p1) U U U U ?_ | refine L.c2 (sm) U U U U ?_) | ((with_reducible refine D.box ?_); refine L.bx U U U U ?_) | ((with_reducible refine D.alloc ?_); refine L.al U U U ?_) | ((with_reducible refine D.store ?_); refine L.st U U U U U U U U U ?_) | ((with_reducible refine D.indexAddr ?_); first | refine L.ixb 0 U U U U U (by decide) U ?_ | refine L.ixb 1 U U U U U (by decide) U ?_) | ((with_reducible refine D.not ?_); refine L.nt U U U ?_) | ((with_reducible refine D.pick ?_); refine L.pk U U U U ?_) | ((with_reducible refine D.ax ?_); refine L.bd U U U U U ?_) | ((with_reducible refine D.aw ?_); first | ((with_reducible refine D.blk ?_); refine AW.block ?_) | refine K.sq (AW.regL ?_) | refine K.sq (K.sq ?_) | refine AW.regL ?_ | refine AW.regD mixed (by kernel_rfl) ?_ | refine AW.condT U ?_ | refine AW.condF U ?_ | refine AW.condS U (fun h => ?_) (fun h => ?_) | refine AW.skip ?_ | refine AW.ret ?_) | with_reducible refine K.tN ?_ | with_reducible refine K.tR ?_ | with_reducible refine K.bR ?_ | with_reducible refine K.r1 (by with_unfolding_all rfl) (by with_unfolding_all rfl) ?_)
    · have h' : ¬ a = y := by simpa using h
      have er : rule 3 th [funT a b, y] = (noTy, 7) := by simp [rule, h']
      rw [er]; rfl
    · have h' : a = y := by simpa using h
      have er : rule 3 th [funT a b, y] = (b, 0) := by simp [rule, h']
      rw [er]
      simp [tupV, V.wk, V.wks, constV, Sz.view]
  · have hi : PC E 202 [.agg (ofT x).view, .i 4] (.bool false) := by rw [show (x.kind == 4) = false by simpa using hk] at hi; exact hi
    have er : rule 3 th [x, y] = (noTy, 7) := by simp [rule, hk]
    rw [er]
    refine AC.mk Tryz.func211 rfl rfl rfl rfl rfl (Nat.le_of_ble_eq_true rfl) ?_
    repeat' (first | ((with_reducible refine D.nil ?_); first | refine AX.nilL ?_ | refine AX.nilD (by kernel_rfl) ?_) | ((with_reducible refine D.load ?_); first | refine L.ldb U U U U U U ?_ | refine AX.sk U U ?_) | ((with_reducible refine D.move ?_); refine L.mv U U U ?_) | ((with_reducible refine D.fieldAddr ?_); refine L.fab U U U U U ?_) | ((with_reducible refine D.assign ?_); refine L.asg U U U ?_) | ((with_reducible refine D.bin ?_); refine L.bn U U U U U ?_) | ((with_reducible refine D.call ?_); first | refine L.lnt U U U U ?_ | refine L.c2 (hp) U U U U ?_ | refine L.c2 (hi) U U U U ?_ | refine AX.sk U U ?_) | ((with_reducible refine D.box ?_); refine L.bx U U U U ?_) | ((with_reducible refine D.alloc ?_); refine L.al U U U ?_) | ((with_reducible refine D.store ?_); refine L.st U U U U U U U U U ?_) | ((with_reducible refine D.indexAddr ?_); first | refine AX.sk U U ?_ | refine L.ixb 0 U U U U U (by decide) U ?_) | ((with_reducible refine D.not ?_); first | refine L.nt U U U ?_ | refine AX.sk U U ?_) | ((with_reducible refine D.pick ?_); refine L.pk U U U U ?_) | ((with_reducible refine D.ax ?_); refine L.bd U U U U U ?_) | ((with_reducible refine D.aw ?_); first | ((with_reducible refine D.blk ?_); refine AW.block ?_) | refine K.sq (AW.regL ?_) | refine K.sq (K.sq ?_) | refine AW.regL ?_ | refine AW.regD mixed (by kernel_rfl) ?_ | refine AW.condT U ?_ | refine AW.condF U ?_ | refine AW.skip ?_ | refine AW.ret ?_) | with_reducible refine K.tN ?_ | with_reducible refine K.tR ?_ | with_reducible refine K.bR ?_ | with_reducible refine K.r1 (by with_unfolding_all rfl) (by with_unfolding_all rfl) ?_)
    rfl
theorem node10_c (i : Int) (th : Ty) (ts : List Tm) (x : Ty) (ex : x.err = 0) (y : Ty) (ey : y.err = 0) : PC E 211 [.agg (Tm.mk 10 i th ts).view, .agg (pad3 [x, y])] (.tup [.agg (ofT (rule 10 th [x, y]).1).view, .i (rule 10 th [x, y]).2]) := by
  have hp := plainN_c 10 rfl
  have hj := join_c 3 (ofT x) (ofT y) (nodes_bd ex) (nodes_bd ey)
  rw [join_ok (.inl rfl) ex ey] at hj
  have er : rule 10 th [x, y] = okT (.mk 3 [x, y]) := by simp [rule, twoT]
  rw [er]
  refine AC.mk Tryz.func211 rfl rfl rfl rfl rfl (Nat.le_of_ble_eq_true rfl) ?_
  repeat' (first | ((with_reducible refine D.nil ?_); refine AX.nilL ?_) | ((with_reducible refine D.load ?_); refine L.ldb U U U U U U ?_) | ((with_reducible refine D.move ?_); refine L.mv U U U ?_) | ((with_reducible refine D.fieldAddr ?_); refine L.fab U U U U U ?_) | ((with_reducible refine D.assign ?_); refine L.asg U U U ?_) | ((with_reducible refine D.bin ?_); refine L.bn U U U U U ?_) | ((with_reducible refine D.call ?_); first | refine L.lnt U U U U ?_ | refine L.c2 (hp) U U U U ?_ | refine L.c2 (hj) U U U U ?_) | ((with_reducible refine D.extract ?_); refine L.ex U U U U ?_) | ((with_reducible refine D.box ?_); refine L.bx U U U U ?_) | ((with_reducible refine D.alloc ?_); refine L.al U U U ?_) | ((with_reducible refine D.store ?_); refine L.st U U U U U U U U U ?_) | ((with_reducible refine D.indexAddr ?_); first | refine L.ixb 0 U U U U U (by decide) U ?_ | refine L.ixb 1 U U U U U (by decide) U ?_) | ((with_reducible refine D.aw ?_); first | ((with_reducible refine D.blk ?_); refine AW.block ?_) | refine K.sq (AW.regL ?_) | refine K.sq (K.sq ?_) | refine AW.regL ?_ | refine AW.condT U ?_ | refine AW.condF U ?_ | refine AW.skip ?_ | refine AW.ret ?_) | with_reducible refine K.tN ?_ | with_reducible refine K.tR ?_ | with_reducible refine K.bR ?_ | with_reducible refine K.r1 (by with_unfolding_all rfl) (by with_unfolding_all rfl) ?_)
  simp [tupV, V.wk, V.wks, constV, Sz.view]
theorem node11_c (i : Int) (th : Ty) (ts : List Tm) (x : Ty) (ex : x.err = 0) : PC E 211 [.agg (Tm.mk 11 i th ts).view, .agg (pad3 [x])] (.tup [.agg (ofT (rule 11 th [x]).1).view, .i (rule 11 th [x]).2]) := by
  have hp := plainN_c 11 rfl
  have hi : PC E 202 [.agg (ofT x).view, .i 3] (.bool (x.kind == 3)) := is_c (ofT x) 3
  by_cases hk : x.kind = 3
  · obtain ⟨a, b, hab⟩ := Ty.args_two ((Ty.err_iff x).1 ex).1 (.inl hk)
    have hx : x = twoT a b := (Ty.eq_iff _ _).2 ⟨hk, hab⟩
    subst hx
    have p0 : PC E 215 [.agg (ofT (twoT a b)).view, .i 0] (.agg (ofT a).view) := part_c (ofT (twoT a b)) 0 (by simp [ofT]) (by have := sz_big ex; show (twoT a b).size < _; omega)
    rw [show (Ty.kind (twoT a b) == 3) = true from rfl] at hi
    have er : rule 11 th [twoT a b] = (a, 0) := by simp [rule]
    rw [er]
    refine AC.mk Tryz.func211 rfl rfl rfl rfl rfl (Nat.le_of_ble_eq_true rfl) ?_
    repeat' (first | ((with_reducible refine D.nil ?_); refine AX.nilL ?_) | ((with_reducible refine D.load ?_); refine L.ldb U U U U U U ?_) | ((with_reducible refine D.move ?_); refine L.mv U U U ?_) | ((with_reducible refine D.fieldAddr ?_); refine L.fab U U U U U ?_) | ((with_reducible refine D.assign ?_); refine L.asg U U U ?_) | ((with_reducible refine D.bin ?_); refine L.bn U U U U U ?_) | ((with_reducible refine D.call ?_); first | refine L.lnt U U U U ?_ | refine L.c2 (hp) U U U U ?_ | refine L.c2 (hi) U U U U ?_ | refine L.c2 (p0) U U U U ?_) | ((with_reducible refine D.box ?_); refine L.bx U U U U ?_) | ((with_reducible refine D.alloc ?_); refine L.al U U U ?_) | ((with_reducible refine D.store ?_); refine L.st U U U U U U U U U ?_) | ((with_reducible refine D.indexAddr ?_); refine L.ixb 0 U U U U U (by decide) U ?_) | ((with_reducible refine D.not ?_); refine L.nt U U U ?_) | ((with_reducible refine D.aw ?_); first | ((with_reducible refine D.blk ?_); refine AW.block ?_) | refine K.sq (AW.regL ?_) | refine K.sq (K.sq ?_) | refine AW.regL ?_ | refine AW.condT U ?_ | refine AW.condF U ?_ | refine AW.skip ?_ | refine AW.ret ?_) | with_reducible refine K.tN ?_ | with_reducible refine K.bN ?_ | with_reducible refine K.tR ?_ | with_reducible refine K.r1 (by with_unfolding_all rfl) (by with_unfolding_all rfl) ?_)
    simp [tupV, V.wk, V.wks, constV, Sz.view]
  · have hi : PC E 202 [.agg (ofT x).view, .i 3] (.bool false) := by rw [show (x.kind == 3) = false by simpa using hk] at hi; exact hi
    have er : rule 11 th [x] = (noTy, 7) := by simp [rule, hk]
    rw [er]
    refine AC.mk Tryz.func211 rfl rfl rfl rfl rfl (Nat.le_of_ble_eq_true rfl) ?_
    repeat' (first | ((with_reducible refine D.nil ?_); refine AX.nilL ?_) | ((with_reducible refine D.load ?_); refine L.ldb U U U U U U ?_) | ((with_reducible refine D.move ?_); refine L.mv U U U ?_) | ((with_reducible refine D.fieldAddr ?_); refine L.fab U U U U U ?_) | ((with_reducible refine D.assign ?_); refine L.asg U U U ?_) | ((with_reducible refine D.bin ?_); refine L.bn U U U U U ?_) | ((with_reducible refine D.call ?_); first | refine L.lnt U U U U ?_ | refine L.c2 (hp) U U U U ?_ | refine L.c2 (hi) U U U U ?_) | ((with_reducible refine D.box ?_); refine L.bx U U U U ?_) | ((with_reducible refine D.alloc ?_); refine L.al U U U ?_) | ((with_reducible refine D.store ?_); refine L.st U U U U U U U U U ?_) | ((with_reducible refine D.indexAddr ?_); refine L.ixb 0 U U U U U (by decide) U ?_) | ((with_reducible refine D.not ?_); refine L.nt U U U ?_) | ((with_reducible refine D.ax ?_); refine L.bd U U U U U ?_) | ((with_reducible refine D.aw ?_); first | ((with_reducible refine D.blk ?_); refine AW.block ?_) | refine K.sq (AW.regL ?_) | refine K.sq (K.sq ?_) | refine AW.regL ?_ | refine AW.condT U ?_ | refine AW.condF U ?_ | refine AW.skip ?_ | refine AW.ret ?_) | with_reducible refine K.tN ?_ | with_reducible refine K.bN ?_ | with_reducible refine K.tR ?_ | with_reducible refine K.r1 (by with_unfolding_all rfl) (by with_unfolding_all rfl) ?_)
    rfl
theorem node12_c (i : Int) (th : Ty) (ts : List Tm) (x : Ty) (ex : x.err = 0) : PC E 211 [.agg (Tm.mk 12 i th ts).view, .agg (pad3 [x])] (.tup [.agg (ofT (rule 12 th [x]).1).view, .i (rule 12 th [x]).2]) := by
  have hp := plainN_c 12 rfl
  have hi : PC E 202 [.agg (ofT x).view, .i 3] (.bool (x.kind == 3)) := is_c (ofT x) 3
  by_cases hk : x.kind = 3
  · obtain ⟨a, b, hab⟩ := Ty.args_two ((Ty.err_iff x).1 ex).1 (.inl hk)
    have hx : x = twoT a b := (Ty.eq_iff _ _).2 ⟨hk, hab⟩
    subst hx
    have p0 : PC E 215 [.agg (ofT (twoT a b)).view, .i 1] (.agg (ofT b).view) := part_c (ofT (twoT a b)) 1 (by simp [ofT]) (by have := sz_big ex; show (twoT a b).size < _; omega)
    rw [show (Ty.kind (twoT a b) == 3) = true from rfl] at hi
    have er : rule 12 th [twoT a b] = (b, 0) := by simp [rule]
    rw [er]
    refine AC.mk Tryz.func211 rfl rfl rfl rfl rfl (Nat.le_of_ble_eq_true rfl) ?_
    repeat' (first | ((with_reducible refine D.nil ?_); refine AX.nilL ?_) | ((with_reducible refine D.load ?_); refine L.ldb U U U U U U ?_) | ((with_reducible refine D.move ?_); refine L.mv U U U ?_) | ((with_reducible refine D.fieldAddr ?_); refine L.fab U U U U U ?_) | ((with_reducible refine D.assign ?_); refine L.asg U U U ?_) | ((with_reducible refine D.bin ?_); refine L.bn U U U U U ?_) | ((with_reducible refine D.call ?_); first | refine L.lnt U U U U ?_ | refine L.c2 (hp) U U U U ?_ | refine L.c2 (hi) U U U U ?_ | refine L.c2 (p0) U U U U ?_) | ((with_reducible refine D.box ?_); refine L.bx U U U U ?_) | ((with_reducible refine D.alloc ?_); refine L.al U U U ?_) | ((with_reducible refine D.store ?_); refine L.st U U U U U U U U U ?_) | ((with_reducible refine D.indexAddr ?_); refine L.ixb 0 U U U U U (by decide) U ?_) | ((with_reducible refine D.not ?_); refine L.nt U U U ?_) | ((with_reducible refine D.aw ?_); first | ((with_reducible refine D.blk ?_); refine AW.block ?_) | refine K.sq (AW.regL ?_) | refine K.sq (K.sq ?_) | refine AW.regL ?_ | refine AW.condF U ?_ | refine AW.skip ?_ | refine AW.ret ?_) | with_reducible refine K.tN ?_ | with_reducible refine K.bN ?_ | with_reducible refine K.r1 (by with_unfolding_all rfl) (by with_unfolding_all rfl) ?_)
    simp [tupV, V.wk, V.wks, constV, Sz.view]
  · have hi : PC E 202 [.agg (ofT x).view, .i 3] (.bool false) := by rw [show (x.kind == 3) = false by simpa using hk] at hi; exact hi
    have er : rule 12 th [x] = (noTy, 7) := by simp [rule, hk]
    rw [er]
    refine AC.mk Tryz.func211 rfl rfl rfl rfl rfl (Nat.le_of_ble_eq_true rfl) ?_
    repeat' (first | ((with_reducible refine D.nil ?_); refine AX.nilL ?_) | ((with_reducible refine D.load ?_); refine L.ldb U U U U U U ?_) | ((with_reducible refine D.move ?_); refine L.mv U U U ?_) | ((with_reducible refine D.fieldAddr ?_); refine L.fab U U U U U ?_) | ((with_reducible refine D.assign ?_); refine L.asg U U U ?_) | ((with_reducible refine D.bin ?_); refine L.bn U U U U U ?_) | ((with_reducible refine D.call ?_); first | refine L.lnt U U U U ?_ | refine L.c2 (hp) U U U U ?_ | refine L.c2 (hi) U U U U ?_) | ((with_reducible refine D.box ?_); refine L.bx U U U U ?_) | ((with_reducible refine D.alloc ?_); refine L.al U U U ?_) | ((with_reducible refine D.store ?_); refine L.st U U U U U U U U U ?_) | ((with_reducible refine D.indexAddr ?_); refine L.ixb 0 U U U U U (by decide) U ?_) | ((with_reducible refine D.not ?_); refine L.nt U U U ?_) | ((with_reducible refine D.ax ?_); refine L.bd U U U U U ?_) | ((with_reducible refine D.aw ?_); first | ((with_reducible refine D.blk ?_); refine AW.block ?_) | refine K.sq (AW.regL ?_) | refine K.sq (K.sq ?_) | refine AW.regL ?_ | refine AW.condT U ?_ | refine AW.condF U ?_ | refine AW.skip ?_ | refine AW.ret ?_) | with_reducible refine K.tN ?_ | with_reducible refine K.bN ?_ | with_reducible refine K.tR ?_ | with_reducible refine K.r1 (by with_unfolding_all rfl) (by with_unfolding_all rfl) ?_)
    rfl
theorem node6_c (i : Int) (th : Ty) (ts : List Tm) (eh : th.err = 0) (x : Ty) (ex : x.err = 0) (y : Ty) (ey : y.err = 0) (z : Ty) (ez : z.err = 0) : PC E 211 [.agg (Tm.mk 6 i th ts).view, .agg (pad3 [x, y, z])] (.tup [.agg (ofT (rule 6 th [x, y, z]).1).view, .i (rule 6 th [x, y, z]).2]) := by
  have hp := plainN_c 6 rfl
  have ho := of_c th (by have := sz_big eh; omega)
  have sm := sameSz_ok x th ex eh
  have hst := step_c (Tm.mk 6 i th ts)
  rw [show stepT (Tm.mk 6 i th ts) = funT natT (funT th th) from rfl] at hst
  have s2 := sameTy2_c _ y (funT natT (funT th th)) (Nat.le_refl _) (by have := sz_big ey; omega)
  have hi : PC E 202 [.agg (ofT z).view, .i 1] (.bool (z.kind == 1)) := is_c (ofT z) 1
  have hz : (z.kind == 1) = decide (z = natT) := by
    by_cases h : z = natT
    · subst h; rfl
    · have : ¬ z.kind = 1 := fun hk => h (nat_of ez hk)
      rw [decide_eq_false h]; simpa using this
  rw [hz] at hi
  refine AC.mk Tryz.func211 rfl rfl rfl rfl rfl (Nat.le_of_ble_eq_true rfl) ?_
  repeat' (first | ((with_reducible refine D.nil ?_); first | refine AX.nilL ?_ | refine AX.nilD (by kernel_rfl) ?_) | ((with_reducible refine D.load ?_); first | refine L.ldb U U U U U U ?_ | refine AX.sk U U ?_) | ((with_reducible refine D.move ?_); first | refine L.mv U U U ?_ | refine AX.sk U U ?_) | ((with_reducible refine D.fieldAddr ?_); first | refine L.fab U U U U U ?_ | refine AX.sk U U ?_) | ((with_reducible refine D.assign ?_); refine L.asg U U U ?_) | ((with_reducible refine D.bin ?_); refine L.bn U U U U U ?_) | ((with_reducible refine D.call ?_); first | refine L.lnt U U U U ?_ | refine L.c2 (hp) U U U U ?_ | refine L.c2 (ho) U U U U ?_ | refine L.c2 (sm) U U U U ?_ | refine L.c2 (hst) U U U U ?_ | refine L.c2 (s2) U U U U ?_ | refine L.c2 (hi) U U U U ?_ | refine AX.sk U U ?_) | ((with_reducible refine D.box ?_); refine L.bx U U U U ?_) | ((with_reducible refine D.alloc ?_); refine L.al U U U ?_) | ((with_reducible refine D.store ?_); refine L.st U U U U U U U U U ?_) | ((with_reducible refine D.indexAddr ?_); first | refine AX.sk U U ?_ | ((fail_if_success refine AX.wt U ?_); refine AX.gs U U (fun _ => trivial) (fun h => ?_) (fun h => ?_)) | refine L.ixb 0 U U U U U (by decide) U ?_ | refine L.ixb 1 U U U U U (by decide) U ?_ | refine L.ixb 2 U U U U U (by decide) U ?_) | ((with_reducible refine D.not ?_); first | refine L.nt U U U ?_ | refine AX.sk U U ?_) | ((with_reducible refine D.pick ?_); refine L.pk U U U U ?_) | ((with_reducible refine D.ax ?_); refine L.bd U U U U U ?_) | ((with_reducible refine D.aw ?_); first | ((with_reducible refine D.blk ?_); refine AW.block ?_) | refine K.sq (AW.regL ?_) | refine K.sq (K.sq ?_) | refine AW.regL ?_ | refine AW.regD mixed (by kernel_rfl) ?_ | refine AW.condT U ?_ | refine AW.condF U ?_ | refine AW.condS U (fun h => ?_) (fun h => ?_) | refine AW.skip ?_ | refine AW.ret ?_) | with_reducible refine K.tN ?_ | with_reducible refine K.tR ?_ | with_reducible refine K.bR ?_ | with_reducible refine K.r1 (by with_unfolding_all rfl) (by with_unfolding_all rfl) ?_)
  all_goals
    clear hp ho sm hst s2 hi hz
    by_cases p1 : x = th <;> by_cases p2 : y = funT natT (funT th th) <;> by_cases p3 : z = natT <;> first
      | (exfalso; simp [p1, p2, p3] at *; done)
      | (have er : rule 6 th [x, y, z] = (noTy, 7) := by simp [rule, p1, p2, p3]
         rw [er]; rfl)
      | (have er : rule 6 th [x, y, z] = (th, 0) := by simp [rule, p1, p2, p3]
         rw [er]; simp [tupV, V.wk, V.wks, constV, Sz.view]; done)
theorem node9_c (i : Int) (th : Ty) (ts : List Tm) (eh : th.err = 0) (x : Ty) (ex : x.err = 0) (y : Ty) (ey : y.err = 0) (z : Ty) (ez : z.err = 0) : PC E 211 [.agg (Tm.mk 9 i th ts).view, .agg (pad3 [x, y, z])] (.tup [.agg (ofT (rule 9 th [x, y, z]).1).view, .i (rule 9 th [x, y, z]).2]) := by
  have hp := plainN_c 9 rfl
  have ho := of_c th (by have := sz_big eh; omega)
  have sm := sameSz_ok x th ex eh
  have hst := step_c (Tm.mk 9 i th ts)
  rw [show stepT (Tm.mk 9 i th ts) = funT natT (funT listT (funT th th)) from rfl] at hst
  have s2 := sameTy2_c _ y (funT natT (funT listT (funT th th))) (Nat.le_refl _) (by have := sz_big ey; omega)
  have hi : PC E 202 [.agg (ofT z).view, .i 2] (.bool (z.kind == 2)) := is_c (ofT z) 2
  have hz : (z.kind == 2) = decide (z = listT) := by
    by_cases h : z = listT
    · subst h; rfl
    · have : ¬ z.kind = 2 := fun hk => h (list_of ez hk)
      rw [decide_eq_false h]; simpa using this
  rw [hz] at hi
  refine AC.mk Tryz.func211 rfl rfl rfl rfl rfl (Nat.le_of_ble_eq_true rfl) ?_
  repeat' (first | ((with_reducible refine D.nil ?_); first | refine AX.nilL ?_ | refine AX.nilD (by kernel_rfl) ?_) | ((with_reducible refine D.load ?_); first | refine L.ldb U U U U U U ?_ | refine AX.sk U U ?_) | ((with_reducible refine D.move ?_); first | refine L.mv U U U ?_ | refine AX.sk U U ?_) | ((with_reducible refine D.fieldAddr ?_); first | refine L.fab U U U U U ?_ | refine AX.sk U U ?_) | ((with_reducible refine D.assign ?_); refine L.asg U U U ?_) | ((with_reducible refine D.bin ?_); refine L.bn U U U U U ?_) | ((with_reducible refine D.call ?_); first | refine L.lnt U U U U ?_ | refine L.c2 (hp) U U U U ?_ | refine L.c2 (ho) U U U U ?_ | refine L.c2 (sm) U U U U ?_ | refine L.c2 (hst) U U U U ?_ | refine L.c2 (s2) U U U U ?_ | refine L.c2 (hi) U U U U ?_ | refine AX.sk U U ?_) | ((with_reducible refine D.box ?_); refine L.bx U U U U ?_) | ((with_reducible refine D.alloc ?_); refine L.al U U U ?_) | ((with_reducible refine D.store ?_); refine L.st U U U U U U U U U ?_) | ((with_reducible refine D.indexAddr ?_); first | refine AX.sk U U ?_ | ((fail_if_success refine AX.wt U ?_); refine AX.gs U U (fun _ => trivial) (fun h => ?_) (fun h => ?_)) | refine L.ixb 0 U U U U U (by decide) U ?_ | refine L.ixb 1 U U U U U (by decide) U ?_ | refine L.ixb 2 U U U U U (by decide) U ?_) | ((with_reducible refine D.not ?_); first | refine L.nt U U U ?_ | refine AX.sk U U ?_) | ((with_reducible refine D.pick ?_); refine L.pk U U U U ?_) | ((with_reducible refine D.ax ?_); refine L.bd U U U U U ?_) | ((with_reducible refine D.aw ?_); first | ((with_reducible refine D.blk ?_); refine AW.block ?_) | refine K.sq (AW.regL ?_) | refine K.sq (K.sq ?_) | refine AW.regL ?_ | refine AW.regD mixed (by kernel_rfl) ?_ | refine AW.condT U ?_ | refine AW.condF U ?_ | refine AW.condS U (fun h => ?_) (fun h => ?_) | refine AW.skip ?_ | refine AW.ret ?_) | with_reducible refine K.tN ?_ | with_reducible refine K.tR ?_ | with_reducible refine K.bR ?_ | with_reducible refine K.r1 (by with_unfolding_all rfl) (by with_unfolding_all rfl) ?_)
  all_goals
    clear hp ho sm hst s2 hi hz
    by_cases p1 : x = th <;> by_cases p2 : y = funT natT (funT listT (funT th th)) <;> by_cases p3 : z = listT <;> first
      | (exfalso; simp [p1, p2, p3] at *; done)
      | (have er : rule 9 th [x, y, z] = (noTy, 7) := by simp [rule, p1, p2, p3]
         rw [er]; rfl)
      | (have er : rule 9 th [x, y, z] = (th, 0) := by simp [rule, p1, p2, p3]
         rw [er]; simp [tupV, V.wk, V.wks, constV, Sz.view]; done)
theorem node_c (t : Tm) (L : List Ty) (hsh : t.shape = true) (k1 : t.kind ≠ 1) (k2 : t.kind ≠ 2) (hl : L.length = t.args.length) (hg : ∀ x ∈ L, x.err = 0) : PC E 211 [.agg t.view, .agg (pad3 L)] (.tup [.agg (ofT (rule t.kind t.ty L).1).view, .i (rule t.kind t.ty L).2]) := by
  have hak := arK_len hsh
  have hty := shape_ty hsh
  rw [← hl] at hak
  obtain ⟨k, i, th, xs⟩ := t
  simp only [Tm.kind_mk, Tm.ty_mk] at *
  rcases arK_cases hak with ⟨hn, hk⟩ | ⟨hn, hk⟩ | ⟨hn, hk⟩ | ⟨hn, hk⟩
  · have hL := List.eq_nil_of_length_eq_zero hn
    subst hL
    rcases hk with rfl | rfl | rfl | rfl
    · exact absurd rfl k1
    · exact node4_c i th xs
    · exact node7_c i th xs
    · exact node13_c i th xs
  · obtain ⟨x, hL⟩ := len_1 hn
    subst hL
    have ex := hg x (by simp)
    rcases hk with rfl | rfl | rfl | rfl
    · exact absurd rfl k2
    · exact node5_c i th xs x ex
    · exact node11_c i th xs x ex
    · exact node12_c i th xs x ex
  · obtain ⟨x, y, hL⟩ := len_2 hn
    subst hL
    have ex := hg x (by simp)
    have ey := hg y (by simp)
    rcases hk with rfl | rfl | rfl
    · exact node3_c i th xs x ex y ey
    · exact node8_c i th xs x ex y ey
    · exact node10_c i th xs x ex y ey
  · obtain ⟨x, y, z, hL⟩ := len_3 hn
    subst hL
    have ex := hg x (by simp)
    have ey := hg y (by simp)
    have ez := hg z (by simp)
    rcases hk with rfl | rfl
    · exact node6_c i th xs (hty rfl) x ex y ey z ez
    · exact node9_c i th xs (hty rfl) x ex y ey z ez
end Go.Ab
namespace Go.Ab
open Go Go.Proofs
set_option maxRecDepth 100000
set_option maxHeartbeats 4000000
set_option linter.all false
abbrev CT (t : Tm) (g : List Ty) : Prop := PC E 201 [.s .sz (g.map ofT), .agg t.view] (.tup [.agg (ofT (t.inf g).1).view, .i (t.inf g).2])
theorem ct1 (t : Tm) (g : List Ty) (hsh : t.shape = true) (hgn : g.length < 274877906944) (k1 : t.kind = 1) : CT t g := by
  have hix := shape_index hsh
  have hinf := Tm.inf_eq g t
  rw [if_pos k1] at hinf
  refine AC.mk Tryz.func201 rfl rfl rfl rfl rfl (Nat.le_of_ble_eq_true rfl) ?_
  by_cases hlt : t.index ≥ g.length
  · rw [if_pos hlt] at hinf
    repeat' (first | ((with_reducible refine D.nil ?_); refine AX.nilL ?_) | ((with_reducible refine D.load ?_); refine L.ldb U U U U U U ?_) | ((with_reducible refine D.move ?_); refine L.mv U U U ?_) | ((with_reducible refine D.fieldAddr ?_); refine L.fab U U U U U ?_) | ((with_reducible refine D.assign ?_); refine L.asg U U U ?_) | ((with_reducible refine D.bin ?_); refine L.bn U U U U U ?_) | ((with_reducible refine D.call ?_); refine L.lnt U U U U ?_) | ((with_reducible refine D.box ?_); refine L.bx U U U U ?_) | ((with_reducible refine D.alloc ?_); refine L.al U U U ?_) | ((with_reducible refine D.store ?_); refine L.st U U U U U U U U U ?_) | ((with_reducible refine D.ax ?_); refine L.bd U U U U U ?_) | ((with_reducible refine D.aw ?_); first | refine K.sq (AW.regL ?_) | refine K.sq (K.sq ?_) | refine AW.regL ?_ | refine AW.condS U (fun h => ?_) (fun h => ?_) | refine AW.skip ?_ | refine AW.ret ?_) | with_reducible refine K.tN ?_ | with_reducible refine K.tR ?_ | with_reducible refine K.r1 (by with_unfolding_all rfl) (by with_unfolding_all rfl) ?_)
    all_goals first
      | (exfalso; simp_all; done)
      | (rw [hinf]; rfl)
      | (exfalso; simp at h; omega)
  · rw [if_neg hlt] at hinf
    have h0 : g.length - 1 - t.index.toNat < g.length := by omega
    have h1 : g.length - 1 - t.index.toNat < (g.map ofT).length := by simpa using h0
    have eg : (g.map ofT)[g.length - 1 - t.index.toNat] = ofT g[g.length - 1 - t.index.toNat] := by simp
    rw [at0_lt h0] at hinf
    have hl : (g.map ofT).length = g.length := by simp
    repeat' (first | ((with_reducible refine D.nil ?_); refine AX.nilL ?_) | ((with_reducible refine D.load ?_); refine L.ldb U U U U U U ?_) | ((with_reducible refine D.move ?_); refine L.mv U U U ?_) | ((with_reducible refine D.fieldAddr ?_); refine L.fab U U U U U ?_) | ((with_reducible refine D.assign ?_); refine L.asg U U U ?_) | ((with_reducible refine D.bin ?_); first | refine L.sb U U U U (by omega) ?_ | refine L.bn U U U U U ?_) | ((with_reducible refine D.call ?_); refine L.lnt U U U U ?_) | ((with_reducible refine D.box ?_); refine L.bx U U U U ?_) | ((with_reducible refine D.alloc ?_); refine L.al U U U ?_) | ((with_reducible refine D.store ?_); refine L.st U U U U U U U U U ?_) | ((with_reducible refine D.ax ?_); refine L.bd U U U U U ?_) | ((with_reducible refine D.aw ?_); first | refine K.sq (AW.regL ?_) | refine K.sq (K.sq ?_) | refine AW.regL ?_ | refine AW.condS U (fun h => ?_) (fun h => ?_) | refine AW.skip ?_ | refine AW.ret ?_) | with_reducible refine K.tN ?_ | with_reducible refine K.tR ?_ | with_reducible refine K.r1 (by with_unfolding_all rfl) (by with_unfolding_all rfl) ?_)
    all_goals first
      | (exfalso; simp_all; done)
      | (exfalso; simp at h; omega)
      | skip
    refine L.ixt (g.length - 1 - t.index.toNat) rfl rfl rfl rfl (by simp only [hl]; omega) rfl rfl h1 ?_
    rw [eg]
    repeat' (first | ((with_reducible refine D.nil ?_); refine AX.nilL ?_) | ((with_reducible refine D.load ?_); refine L.lda U U U U U ?_) | ((with_reducible refine D.assign ?_); refine L.asg U U U ?_) | ((with_reducible refine D.store ?_); refine L.st U U U U U U U U U ?_) | ((with_reducible refine D.aw ?_); refine AW.ret ?_) | with_reducible refine K.tN ?_ | with_reducible refine K.tR ?_ | with_reducible refine K.r1 (by with_unfolding_all rfl) (by with_unfolding_all rfl) ?_)
    rw [hinf]
    simp [tupV, V.wk, V.wks, constV, Sz.view, EC.view]
theorem ct2 (i : Int) (th : Ty) (a : Tm) (g : List Ty) (hsh : (Tm.mk 2 i th [a]).shape = true) (hg : ∀ x ∈ g, x.err = 0) (hgn : g.length < 274877906944) (ih : CT a (g ++ [th])) : CT (Tm.mk 2 i th [a]) g := by
  have hth : th.err = 0 := shape_ty hsh rfl
  have hg' : ∀ x ∈ g ++ [th], x.err = 0 := fun x hx => by
    rcases List.mem_append.1 hx with hx | hx
    · exact hg x hx
    · simp at hx; subst hx; exact hth
  have hgood := Tm.inf_good a (g ++ [th]) (shape_args hsh a (by simp)) hg'
  have hinf : (Tm.mk 2 i th [a]).inf g = if (a.inf (g ++ [th])).2 ≠ 0 then (noTy, (a.inf (g ++ [th])).2) else okT (funT th (a.inf (g ++ [th])).1) := by
    rw [Tm.inf_eq]
    simp only [Tm.kind_mk, Tm.args_mk, Tm.ty_mk, Tm.infs, ne_eq]
    by_cases h : (a.inf (g ++ [th])).2 = 0 <;> simp [h]
  have hc : PC E 201 [.s .sz (g.map ofT ++ [ofT th]), .agg a.view] (.tup [.agg (ofT (a.inf (g ++ [th])).1).view, .i (a.inf (g ++ [th])).2]) := by
    have := ih
    unfold CT at this
    rwa [List.map_append] at this
  have ho := of_c th (by have := sz_big hth; omega)
  have hj : (a.inf (g ++ [th])).2 = 0 → PC E 210 _ _ := fun h => join_c 4 (ofT th) (ofT (a.inf (g ++ [th])).1) (nodes_bd hth) (nodes_bd (hgood h))
  refine AC.mk Tryz.func201 rfl rfl rfl rfl rfl (Nat.le_of_ble_eq_true rfl) ?_
  repeat' (first | ((with_reducible refine D.nil ?_); first | refine AX.nilL ?_ | refine AX.nilD (by kernel_rfl) ?_) | ((with_reducible refine D.load ?_); first | refine L.ldb U U U U U U ?_ | refine L.lda U U U U U ?_) | ((with_reducible refine D.move ?_); refine L.mv U U U ?_) | ((with_reducible refine D.fieldAddr ?_); refine L.fab U U U U U ?_) | ((with_reducible refine D.assign ?_); refine L.asg U U U ?_) | ((with_reducible refine D.bin ?_); refine L.bn U U U U U ?_) | ((with_reducible refine D.call ?_); first | refine L.lnt U U U U ?_ | refine L.aptF U U U U (by first | assumption | simp) U U U (by first | omega | (simp; omega)) ?_ | refine L.c2 (ho) U U U U ?_ | refine L.c2 (hc) U U U U ?_ | refine L.c2 (hj (by simpa using h)) U U U U ?_) | ((with_reducible refine D.extract ?_); refine L.ex U U U U ?_) | ((with_reducible refine D.box ?_); refine L.bx U U U U ?_) | ((with_reducible refine D.alloc ?_); refine L.al U U U ?_) | ((with_reducible refine D.store ?_); refine L.st U U U U U U U U U ?_) | ((with_reducible refine D.indexAddr ?_); refine L.ixt _ U U U U U U U (by (simp only [Ty.args_mk, Tm.args_mk, List.length_cons, List.length_nil, List.getElem_cons_zero, List.getElem_cons_succ]; omega)) ?_) | ((with_reducible refine D.ax ?_); first | refine L.bd U U U U U ?_ | refine L.bs1 U U U U U (EC.fold_of U) U U ?_ | refine L.s3 U U U U U U ?_) | ((with_reducible refine D.aw ?_); first | refine K.sq (AW.regL ?_) | refine K.sq (AW.regD mixed (by kernel_rfl) ?_) | refine K.sq (K.sq ?_) | refine AW.regL ?_ | refine AW.condT U ?_ | refine AW.condF U ?_ | refine AW.condS U (fun h => ?_) (fun h => ?_) | refine AW.skip ?_ | refine AW.ret ?_) | with_reducible refine K.tN ?_ | with_reducible refine K.tR ?_ | with_reducible refine K.r1 (by with_unfolding_all rfl) (by with_unfolding_all rfl) ?_)
  · have h' : (a.inf (g ++ [th])).2 ≠ 0 := by simpa using h
    rw [hinf, if_pos h']; rfl
  · have h' : (a.inf (g ++ [th])).2 = 0 := by simpa using h
    rw [hinf, if_neg (by simp [h']), show okT (funT th (a.inf (g ++ [th])).1) = okT (.mk 4 [th, (a.inf (g ++ [th])).1]) from rfl, join_ok (.inr rfl) hth (hgood h')]
    simp [tupV, V.wk, V.wks, constV, Sz.view]
theorem cn0 (k i : Int) (th : Ty)  (g : List Ty) (hsh : (Tm.mk k i th []).shape = true) (k1 : k ≠ 1) (k2 : k ≠ 2) (hg : ∀ x ∈ g, x.err = 0)  : CT (Tm.mk k i th []) g := by
  have hinf := Tm.inf_eq g (Tm.mk k i th [])
  simp only [Tm.kind_mk, Tm.ty_mk, Tm.args_mk, k1, k2, if_false] at hinf
  have hnode : PC E 211 [.agg (Tm.mk k i th []).view, .agg (pad3 [])] (.tup [.agg (ofT (rule k th []).1).view, .i (rule k th []).2]) := node_c (Tm.mk k i th []) [] hsh k1 k2 rfl (by intro x hx; simp at hx)
  refine AC.mk Tryz.func201 rfl rfl rfl rfl rfl (Nat.le_of_ble_eq_true rfl) ?_
  repeat' (first | ((with_reducible refine D.nil ?_); refine AX.nilL ?_) | ((with_reducible refine D.load ?_); refine L.ldb U U U U U U ?_) | ((with_reducible refine D.move ?_); refine L.mv U U U ?_) | ((with_reducible refine D.fieldAddr ?_); refine L.fab U U U U U ?_) | ((with_reducible refine D.assign ?_); refine L.asg U U U ?_) | ((with_reducible refine D.bin ?_); refine L.bn U U U U U ?_) | ((with_reducible refine D.call ?_); refine L.lnt U U U U ?_) | ((with_reducible refine D.box ?_); refine L.bx U U U U ?_) | ((with_reducible refine D.alloc ?_); refine L.al U U U ?_) | ((with_reducible refine D.store ?_); refine L.st U U U U U U U U U ?_) | ((with_reducible refine D.ax ?_); refine L.bd U U U U U ?_) | ((with_reducible refine D.aw ?_); first | refine K.sq (AW.regL ?_) | refine K.sq (K.sq ?_) | refine AW.regL ?_ | refine AW.condS U (fun h => ?_) (fun h => ?_) | refine AW.skip ?_ | refine AW.ret ?_) | with_reducible refine K.tN ?_ | with_reducible refine K.tR ?_ | with_reducible refine K.r1 (by with_unfolding_all rfl) (by with_unfolding_all rfl) ?_)
  all_goals first
    | (exfalso; simp_all; done)
    | skip
  refine AW.range 0 (fun m => True)
    (fun m => ([(0, .s .sz (g.map ofT)), (3, .ptr 0 0), (4, .ptr 1 0), (9, .ptr 2 0), (65, .s .tm []), (66, .i ((0 : Nat) : Int)), (67, .i m)], ⟨3, [(0, .var (Tm.mk k i th []).view), (1, .var [.i 0, .slice .nil (.t .ty []), .i 0]), (2, .var ( pad3 []))]⟩))
    (by omega) (fun m => rfl) (fun m => rfl) U trivial (Weak.mk [some 0, some 1, some 2] _ _ _ U U U U (by (repeat' (first | exact trivial | refine And.intro ?_ ?_ | refine ⟨_, U, _, U, ?_⟩ | exact VLe.refl _)); done) (by (repeat' (first | exact trivial | refine And.intro ?_ ?_ | refine ⟨_, U, _, U, _, U, ?_⟩ | exact VLe.refl _ | exact VLe.any _ _)); done)) ?_ ?_
  · intro m hm hP
    omega
  · intro hP
    have er : (Tm.mk k i th []).inf g = rule k th [] := by rw [hinf]; simp [Tm.infs]
    have hnode := hnode 
    repeat' (first | ((with_reducible refine D.nil ?_); refine AX.nilL ?_) | ((with_reducible refine D.load ?_); refine L.ldb U U U U U U ?_) | ((with_reducible refine D.assign ?_); refine L.asg U U U ?_) | ((with_reducible refine D.call ?_); refine L.c2 (hnode) U U U U ?_) | ((with_reducible refine D.extract ?_); refine L.ex U U U U ?_) | ((with_reducible refine D.store ?_); refine L.st U U U U U U U U U ?_) | ((with_reducible refine D.aw ?_); first | refine K.sq (AW.regL ?_) | refine AW.ret ?_) | with_reducible refine K.tN ?_ | with_reducible refine K.r1 (by with_unfolding_all rfl) (by with_unfolding_all rfl) ?_)
    rw [er]
    simp [tupV, V.wk, V.wks, constV, Sz.view]
theorem cn1 (k i : Int) (th : Ty) (a : Tm) (g : List Ty) (hsh : (Tm.mk k i th [a]).shape = true) (k1 : k ≠ 1) (k2 : k ≠ 2) (hg : ∀ x ∈ g, x.err = 0) (ia : CT a g) : CT (Tm.mk k i th [a]) g := by
  have hinf := Tm.inf_eq g (Tm.mk k i th [a])
  simp only [Tm.kind_mk, Tm.ty_mk, Tm.args_mk, k1, k2, if_false] at hinf
  have ga := Tm.inf_good a g (shape_args hsh a (by simp)) hg
  have hnode : (a.inf g).2 = 0 → PC E 211 [.agg (Tm.mk k i th [a]).view, .agg (pad3 [(a.inf g).1])] (.tup [.agg (ofT (rule k th [(a.inf g).1]).1).view, .i (rule k th [(a.inf g).1]).2]) := fun ha => node_c (Tm.mk k i th [a]) [(a.inf g).1] hsh k1 k2 rfl (by intro x hx; simp at hx; subst hx; exact ga ha)
  refine AC.mk Tryz.func201 rfl rfl rfl rfl rfl (Nat.le_of_ble_eq_true rfl) ?_
  repeat' (first | ((with_reducible refine D.nil ?_); refine AX.nilL ?_) | ((with_reducible refine D.load ?_); refine L.ldb U U U U U U ?_) | ((with_reducible refine D.move ?_); refine L.mv U U U ?_) | ((with_reducible refine D.fieldAddr ?_); refine L.fab U U U U U ?_) | ((with_reducible refine D.assign ?_); refine L.asg U U U ?_) | ((with_reducible refine D.bin ?_); refine L.bn U U U U U ?_) | ((with_reducible refine D.call ?_); refine L.lnt U U U U ?_) | ((with_reducible refine D.box ?_); refine L.bx U U U U ?_) | ((with_reducible refine D.alloc ?_); refine L.al U U U ?_) | ((with_reducible refine D.store ?_); refine L.st U U U U U U U U U ?_) | ((with_reducible refine D.ax ?_); refine L.bd U U U U U ?_) | ((with_reducible refine D.aw ?_); first | refine K.sq (AW.regL ?_) | refine K.sq (K.sq ?_) | refine AW.regL ?_ | refine AW.condS U (fun h => ?_) (fun h => ?_) | refine AW.skip ?_ | refine AW.ret ?_) | with_reducible refine K.tN ?_ | with_reducible refine K.tR ?_ | with_reducible refine K.r1 (by with_unfolding_all rfl) (by with_unfolding_all rfl) ?_)
  all_goals first
    | (exfalso; simp_all; done)
    | skip
  refine AW.range 1 (fun m => (0 < m → (a.inf g).2 = 0))
    (fun m => ([(0, .s .sz (g.map ofT)), (3, .ptr 0 0), (4, .ptr 1 0), (9, .ptr 2 0), (65, .s .tm [a]), (66, .i ((1 : Nat) : Int)), (67, .i m)], ⟨3, [(0, .var (Tm.mk k i th [a]).view), (1, .var [.i 0, .slice .nil (.t .ty []), .i 0]), (2, .var (if m = 0 then pad3 [] else pad3 [(a.inf g).1]))]⟩))
    (by omega) (fun m => rfl) (fun m => rfl) U (by simp) (Weak.mk [some 0, some 1, some 2] _ _ _ U U U U (by (repeat' (first | exact trivial | refine And.intro ?_ ?_ | refine ⟨_, U, _, U, ?_⟩ | exact VLe.refl _)); done) (by (repeat' (first | exact trivial | refine And.intro ?_ ?_ | refine ⟨_, U, _, U, _, U, ?_⟩ | exact VLe.refl _ | exact VLe.any _ _)); done)) ?_ ?_
  · intro m hm hP
    obtain rfl : m = 0 := by omega
    repeat' (first | ((with_reducible refine D.nil ?_); refine AX.nilL ?_) | ((with_reducible refine D.load ?_); first | refine L.ldb U U U U U U ?_ | refine L.lda U U U U U ?_) | ((with_reducible refine D.move ?_); refine L.mv U U U ?_) | ((with_reducible refine D.assign ?_); refine L.asg U U U ?_) | ((with_reducible refine D.bin ?_); refine L.bn U U U U U ?_) | ((with_reducible refine D.call ?_); refine L.c2 (ia) U U U U ?_) | ((with_reducible refine D.extract ?_); refine L.ex U U U U ?_) | ((with_reducible refine D.alloc ?_); refine L.al U U U ?_) | ((with_reducible refine D.store ?_); refine L.st U U U U U U U U U ?_) | ((with_reducible refine D.indexAddr ?_); first | refine L.ixt _ U U U U U U U (by assumption) ?_ | refine L.ixb 0 U U U U U (by decide) U ?_) | ((with_reducible refine D.ax ?_); refine L.bd U U U U U ?_) | ((with_reducible refine D.aw ?_); first | refine K.sq (AW.regL ?_) | refine K.sq (K.sq ?_) | refine AW.regL ?_ | refine AW.condS U (fun h => ?_) (fun h => ?_) | refine AW.skip ?_ | refine AW.ret ?_) | with_reducible refine K.tN ?_ | with_reducible refine K.bN ?_ | with_reducible refine K.tR ?_ | with_reducible refine K.bR ?_ | with_reducible refine K.gR ?_ | with_reducible refine K.r1 (by with_unfolding_all rfl) (by with_unfolding_all rfl) ?_)
    · have h' : (a.inf g).2 ≠ 0 := by simpa using h
      have er : (Tm.mk k i th [a]).inf g = (noTy, (a.inf g).2) := by rw [hinf]; simp [Tm.infs, h']
      rw [er]; rfl
    · have h' : (a.inf g).2 = 0 := by simpa using h
      exact ⟨rfl, fun _ => h', (Weak.mk [some 0, some 1, some 2] _ _ _ U U U U (by (repeat' (first | exact trivial | refine And.intro ?_ ?_ | refine ⟨_, U, _, U, ?_⟩ | exact VLe.refl _)); done) (by (repeat' (first | exact trivial | refine And.intro ?_ ?_ | refine ⟨_, U, _, U, _, U, ?_⟩ | exact VLe.refl _)); done))⟩
  · intro hP
    have za : (a.inf g).2 = 0 := by have := hP; simp_all
    have er : (Tm.mk k i th [a]).inf g = rule k th [(a.inf g).1] := by rw [hinf]; simp [Tm.infs, za]
    have hnode := hnode za
    repeat' (first | ((with_reducible refine D.nil ?_); refine AX.nilL ?_) | ((with_reducible refine D.load ?_); refine L.ldb U U U U U U ?_) | ((with_reducible refine D.assign ?_); refine L.asg U U U ?_) | ((with_reducible refine D.call ?_); refine L.c2 (hnode) U U U U ?_) | ((with_reducible refine D.extract ?_); refine L.ex U U U U ?_) | ((with_reducible refine D.store ?_); refine L.st U U U U U U U U U ?_) | ((with_reducible refine D.aw ?_); first | refine K.sq (AW.regL ?_) | refine AW.ret ?_) | with_reducible refine K.tN ?_ | with_reducible refine K.r1 (by with_unfolding_all rfl) (by with_unfolding_all rfl) ?_)
    rw [er]
    simp [tupV, V.wk, V.wks, constV, Sz.view]
theorem cn2 (k i : Int) (th : Ty) (a : Tm) (b : Tm) (g : List Ty) (hsh : (Tm.mk k i th [a, b]).shape = true) (k1 : k ≠ 1) (k2 : k ≠ 2) (hg : ∀ x ∈ g, x.err = 0) (ia : CT a g) (ib : CT b g) : CT (Tm.mk k i th [a, b]) g := by
  have hinf := Tm.inf_eq g (Tm.mk k i th [a, b])
  simp only [Tm.kind_mk, Tm.ty_mk, Tm.args_mk, k1, k2, if_false] at hinf
  have ga := Tm.inf_good a g (shape_args hsh a (by simp)) hg
  have gb := Tm.inf_good b g (shape_args hsh b (by simp)) hg
  have hnode : (a.inf g).2 = 0 → (b.inf g).2 = 0 → PC E 211 [.agg (Tm.mk k i th [a, b]).view, .agg (pad3 [(a.inf g).1, (b.inf g).1])] (.tup [.agg (ofT (rule k th [(a.inf g).1, (b.inf g).1]).1).view, .i (rule k th [(a.inf g).1, (b.inf g).1]).2]) := fun ha hb => node_c (Tm.mk k i th [a, b]) [(a.inf g).1, (b.inf g).1] hsh k1 k2 rfl (by intro x hx; simp at hx; rcases hx with rfl | rfl <;> first | exact ga ha | exact gb hb)
  refine AC.mk Tryz.func201 rfl rfl rfl rfl rfl (Nat.le_of_ble_eq_true rfl) ?_
  repeat' (first | ((with_reducible refine D.nil ?_); refine AX.nilL ?_) | ((with_reducible refine D.load ?_); refine L.ldb U U U U U U ?_) | ((with_reducible refine D.move ?_); refine L.mv U U U ?_) | ((with_reducible refine D.fieldAddr ?_); refine L.fab U U U U U ?_) | ((with_reducible refine D.assign ?_); refine L.asg U U U ?_) | ((with_reducible refine D.bin ?_); refine L.bn U U U U U ?_) | ((with_reducible refine D.call ?_); refine L.lnt U U U U ?_) | ((with_reducible refine D.box ?_); refine L.bx U U U U ?_) | ((with_reducible refine D.alloc ?_); refine L.al U U U ?_) | ((with_reducible refine D.store ?_); refine L.st U U U U U U U U U ?_) | ((with_reducible refine D.ax ?_); refine L.bd U U U U U ?_) | ((with_reducible refine D.aw ?_); first | refine K.sq (AW.regL ?_) | refine K.sq (K.sq ?_) | refine AW.regL ?_ | refine AW.condS U (fun h => ?_) (fun h => ?_) | refine AW.skip ?_ | refine AW.ret ?_) | with_reducible refine K.tN ?_ | with_reducible refine K.tR ?_ | with_reducible refine K.r1 (by with_unfolding_all rfl) (by with_unfolding_all rfl) ?_)
  all_goals first
    | (exfalso; simp_all; done)
    | skip
  refine AW.range 2 (fun m => (0 < m → (a.inf g).2 = 0) ∧ (1 < m → (b.inf g).2 = 0))
    (fun m => ([(0, .s .sz (g.map ofT)), (3, .ptr 0 0), (4, .ptr 1 0), (9, .ptr 2 0), (65, .s .tm [a, b]), (66, .i ((2 : Nat) : Int)), (67, .i m)], ⟨3, [(0, .var (Tm.mk k i th [a, b]).view), (1, .var [.i 0, .slice .nil (.t .ty []), .i 0]), (2, .var (if m = 0 then pad3 [] else if m = 1 then pad3 [(a.inf g).1] else pad3 [(a.inf g).1, (b.inf g).1]))]⟩))
    (by omega) (fun m => rfl) (fun m => rfl) U (by simp) (Weak.mk [some 0, some 1, some 2] _ _ _ U U U U (by (repeat' (first | exact trivial | refine And.intro ?_ ?_ | refine ⟨_, U, _, U, ?_⟩ | exact VLe.refl _)); done) (by (repeat' (first | exact trivial | refine And.intro ?_ ?_ | refine ⟨_, U, _, U, _, U, ?_⟩ | exact VLe.refl _ | exact VLe.any _ _)); done)) ?_ ?_
  · intro m hm hP
    by_cases hm0 : m = 0
    · subst hm0
      repeat' (first | ((with_reducible refine D.nil ?_); refine AX.nilL ?_) | ((with_reducible refine D.load ?_); first | refine L.ldb U U U U U U ?_ | refine L.lda U U U U U ?_) | ((with_reducible refine D.move ?_); refine L.mv U U U ?_) | ((with_reducible refine D.assign ?_); refine L.asg U U U ?_) | ((with_reducible refine D.bin ?_); refine L.bn U U U U U ?_) | ((with_reducible refine D.call ?_); refine L.c2 (ia) U U U U ?_) | ((with_reducible refine D.extract ?_); refine L.ex U U U U ?_) | ((with_reducible refine D.alloc ?_); refine L.al U U U ?_) | ((with_reducible refine D.store ?_); refine L.st U U U U U U U U U ?_) | ((with_reducible refine D.indexAddr ?_); first | refine L.ixt _ U U U U U U U (by assumption) ?_ | refine L.ixb 0 U U U U U (by decide) U ?_) | ((with_reducible refine D.ax ?_); refine L.bd U U U U U ?_) | ((with_reducible refine D.aw ?_); first | refine K.sq (AW.regL ?_) | refine K.sq (K.sq ?_) | refine AW.regL ?_ | refine AW.condS U (fun h => ?_) (fun h => ?_) | refine AW.skip ?_ | refine AW.ret ?_) | with_reducible refine K.tN ?_ | with_reducible refine K.bN ?_ | with_reducible refine K.tR ?_ | with_reducible refine K.bR ?_ | with_reducible refine K.gR ?_ | with_reducible refine K.r1 (by with_unfolding_all rfl) (by with_unfolding_all rfl) ?_)
      · have h' : (a.inf g).2 ≠ 0 := by simpa using h
        have er : (Tm.mk k i th [a, b]).inf g = (noTy, (a.inf g).2) := by rw [hinf]; simp [Tm.infs, h']
        rw [er]; rfl
      · have h' : (a.inf g).2 = 0 := by simpa using h
        exact ⟨rfl, ⟨by intro _; first | exact h' | (have := hP; simp_all), by omega⟩, (Weak.mk [some 0, some 1, some 2] _ _ _ U U U U (by (repeat' (first | exact trivial | refine And.intro ?_ ?_ | refine ⟨_, U, _, U, ?_⟩ | exact VLe.refl _)); done) (by (repeat' (first | exact trivial | refine And.intro ?_ ?_ | refine ⟨_, U, _, U, _, U, ?_⟩ | exact VLe.refl _)); done))⟩
    obtain rfl : m = 1 := by omega
    repeat' (first | ((with_reducible refine D.nil ?_); refine AX.nilL ?_) | ((with_reducible refine D.load ?_); first | refine L.ldb U U U U U U ?_ | refine L.lda U U U U U ?_) | ((with_reducible refine D.move ?_); refine L.mv U U U ?_) | ((with_reducible refine D.assign ?_); refine L.asg U U U ?_) | ((with_reducible refine D.bin ?_); refine L.bn U U U U U ?_) | ((with_reducible refine D.call ?_); refine L.c2 (ib) U U U U ?_) | ((with_reducible refine D.extract ?_); refine L.ex U U U U ?_) | ((with_reducible refine D.alloc ?_); refine L.al U U U ?_) | ((with_reducible refine D.store ?_); refine L.st U U U U U U U U U ?_) | ((with_reducible refine D.indexAddr ?_); first | refine L.ixt _ U U U U U U U (by assumption) ?_ | refine L.ixb 1 U U U U U (by decide) U ?_) | ((with_reducible refine D.ax ?_); refine L.bd U U U U U ?_) | ((with_reducible refine D.aw ?_); first | refine K.sq (AW.regL ?_) | refine K.sq (K.sq ?_) | refine AW.regL ?_ | refine AW.condS U (fun h => ?_) (fun h => ?_) | refine AW.skip ?_ | refine AW.ret ?_) | with_reducible refine K.tN ?_ | with_reducible refine K.bN ?_ | with_reducible refine K.tR ?_ | with_reducible refine K.bR ?_ | with_reducible refine K.gR ?_ | with_reducible refine K.r1 (by with_unfolding_all rfl) (by with_unfolding_all rfl) ?_)
    · have h' : (b.inf g).2 ≠ 0 := by simpa using h
      have za : (a.inf g).2 = 0 := by have := hP; simp_all
      have er : (Tm.mk k i th [a, b]).inf g = (noTy, (b.inf g).2) := by rw [hinf]; simp [Tm.infs, h', za]
      rw [er]; rfl
    · have h' : (b.inf g).2 = 0 := by simpa using h
      exact ⟨rfl, ⟨by intro _; first | exact h' | (have := hP; simp_all), by intro _; first | exact h' | (have := hP; simp_all)⟩, (Weak.mk [some 0, some 1, some 2] _ _ _ U U U U (by (repeat' (first | exact trivial | refine And.intro ?_ ?_ | refine ⟨_, U, _, U, ?_⟩ | exact VLe.refl _)); done) (by (repeat' (first | exact trivial | refine And.intro ?_ ?_ | refine ⟨_, U, _, U, _, U, ?_⟩ | exact VLe.refl _)); done))⟩
  · intro hP
    have za : (a.inf g).2 = 0 := by have := hP; simp_all
    have zb : (b.inf g).2 = 0 := by have := hP; simp_all
    have er : (Tm.mk k i th [a, b]).inf g = rule k th [(a.inf g).1, (b.inf g).1] := by rw [hinf]; simp [Tm.infs, za, zb]
    have hnode := hnode za zb
    repeat' (first | ((with_reducible refine D.nil ?_); refine AX.nilL ?_) | ((with_reducible refine D.load ?_); refine L.ldb U U U U U U ?_) | ((with_reducible refine D.assign ?_); refine L.asg U U U ?_) | ((with_reducible refine D.call ?_); refine L.c2 (hnode) U U U U ?_) | ((with_reducible refine D.extract ?_); refine L.ex U U U U ?_) | ((with_reducible refine D.store ?_); refine L.st U U U U U U U U U ?_) | ((with_reducible refine D.aw ?_); first | refine K.sq (AW.regL ?_) | refine AW.ret ?_) | with_reducible refine K.tN ?_ | with_reducible refine K.r1 (by with_unfolding_all rfl) (by with_unfolding_all rfl) ?_)
    rw [er]
    simp [tupV, V.wk, V.wks, constV, Sz.view]
theorem cn3 (k i : Int) (th : Ty) (a : Tm) (b : Tm) (c : Tm) (g : List Ty) (hsh : (Tm.mk k i th [a, b, c]).shape = true) (k1 : k ≠ 1) (k2 : k ≠ 2) (hg : ∀ x ∈ g, x.err = 0) (ia : CT a g) (ib : CT b g) (ic : CT c g) : CT (Tm.mk k i th [a, b, c]) g := by
  have hinf := Tm.inf_eq g (Tm.mk k i th [a, b, c])
  simp only [Tm.kind_mk, Tm.ty_mk, Tm.args_mk, k1, k2, if_false] at hinf
  have ga := Tm.inf_good a g (shape_args hsh a (by simp)) hg
  have gb := Tm.inf_good b g (shape_args hsh b (by simp)) hg
  have gc := Tm.inf_good c g (shape_args hsh c (by simp)) hg
  have hnode : (a.inf g).2 = 0 → (b.inf g).2 = 0 → (c.inf g).2 = 0 → PC E 211 [.agg (Tm.mk k i th [a, b, c]).view, .agg (pad3 [(a.inf g).1, (b.inf g).1, (c.inf g).1])] (.tup [.agg (ofT (rule k th [(a.inf g).1, (b.inf g).1, (c.inf g).1]).1).view, .i (rule k th [(a.inf g).1, (b.inf g).1, (c.inf g).1]).2]) := fun ha hb hc => node_c (Tm.mk k i th [a, b, c]) [(a.inf g).1, (b.inf g).1, (c.inf g).1] hsh k1 k2 rfl (by intro x hx; simp at hx; rcases hx with rfl | rfl | rfl <;> first | exact ga ha | exact gb hb | exact gc hc)
  refine AC.mk Tryz.func201 rfl rfl rfl rfl rfl (Nat.le_of_ble_eq_true rfl) ?_
  repeat' (first | ((with_reducible refine D.nil ?_); refine AX.nilL ?_) | ((with_reducible refine D.load ?_); refine L.ldb U U U U U U ?_) | ((with_reducible refine D.move ?_); refine L.mv U U U ?_) | ((with_reducible refine D.fieldAddr ?_); refine L.fab U U U U U ?_) | ((with_reducible refine D.assign ?_); refine L.asg U U U ?_) | ((with_reducible refine D.bin ?_); refine L.bn U U U U U ?_) | ((with_reducible refine D.call ?_); refine L.lnt U U U U ?_) | ((with_reducible refine D.box ?_); refine L.bx U U U U ?_) | ((with_reducible refine D.alloc ?_); refine L.al U U U ?_) | ((with_reducible refine D.store ?_); refine L.st U U U U U U U U U ?_) | ((with_reducible refine D.ax ?_); refine L.bd U U U U U ?_) | ((with_reducible refine D.aw ?_); first | refine K.sq (AW.regL ?_) | refine K.sq (K.sq ?_) | refine AW.regL ?_ | refine AW.condS U (fun h => ?_) (fun h => ?_) | refine AW.skip ?_ | refine AW.ret ?_) | with_reducible refine K.tN ?_ | with_reducible refine K.tR ?_ | with_reducible refine K.r1 (by with_unfolding_all rfl) (by with_unfolding_all rfl) ?_)
  all_goals first
    | (exfalso; simp_all; done)
    | skip
  refine AW.range 3 (fun m => (0 < m → (a.inf g).2 = 0) ∧ (1 < m → (b.inf g).2 = 0) ∧ (2 < m → (c.inf g).2 = 0))
    (fun m => ([(0, .s .sz (g.map ofT)), (3, .ptr 0 0), (4, .ptr 1 0), (9, .ptr 2 0), (65, .s .tm [a, b, c]), (66, .i ((3 : Nat) : Int)), (67, .i m)], ⟨3, [(0, .var (Tm.mk k i th [a, b, c]).view), (1, .var [.i 0, .slice .nil (.t .ty []), .i 0]), (2, .var (if m = 0 then pad3 [] else if m = 1 then pad3 [(a.inf g).1] else if m = 2 then pad3 [(a.inf g).1, (b.inf g).1] else pad3 [(a.inf g).1, (b.inf g).1, (c.inf g).1]))]⟩))
    (by omega) (fun m => rfl) (fun m => rfl) U (by simp) (Weak.mk [some 0, some 1, some 2] _ _ _ U U U U (by (repeat' (first | exact trivial | refine And.intro ?_ ?_ | refine ⟨_, U, _, U, ?_⟩ | exact VLe.refl _)); done) (by (repeat' (first | exact trivial | refine And.intro ?_ ?_ | refine ⟨_, U, _, U, _, U, ?_⟩ | exact VLe.refl _ | exact VLe.any _ _)); done)) ?_ ?_
  · intro m hm hP
    by_cases hm0 : m = 0
    · subst hm0
      repeat' (first | ((with_reducible refine D.nil ?_); refine AX.nilL ?_) | ((with_reducible refine D.load ?_); first | refine L.ldb U U U U U U ?_ | refine L.lda U U U U U ?_) | ((with_reducible refine D.move ?_); refine L.mv U U U ?_) | ((with_reducible refine D.assign ?_); refine L.asg U U U ?_) | ((with_reducible refine D.bin ?_); refine L.bn U U U U U ?_) | ((with_reducible refine D.call ?_); refine L.c2 (ia) U U U U ?_) | ((with_reducible refine D.extract ?_); refine L.ex U U U U ?_) | ((with_reducible refine D.alloc ?_); refine L.al U U U ?_) | ((with_reducible refine D.store ?_); refine L.st U U U U U U U U U ?_) | ((with_reducible refine D.indexAddr ?_); first | refine L.ixt _ U U U U U U U (by assumption) ?_ | refine L.ixb 0 U U U U U (by decide) U ?_) | ((with_reducible refine D.ax ?_); refine L.bd U U U U U ?_) | ((with_reducible refine D.aw ?_); first | refine K.sq (AW.regL ?_) | refine K.sq (K.sq ?_) | refine AW.regL ?_ | refine AW.condS U (fun h => ?_) (fun h => ?_) | refine AW.skip ?_ | refine AW.ret ?_) | with_reducible refine K.tN ?_ | with_reducible refine K.bN ?_ | with_reducible refine K.tR ?_ | with_reducible refine K.bR ?_ | with_reducible refine K.gR ?_ | with_reducible refine K.r1 (by with_unfolding_all rfl) (by with_unfolding_all rfl) ?_)
      · have h' : (a.inf g).2 ≠ 0 := by simpa using h
        have er : (Tm.mk k i th [a, b, c]).inf g = (noTy, (a.inf g).2) := by rw [hinf]; simp [Tm.infs, h']
        rw [er]; rfl
      · have h' : (a.inf g).2 = 0 := by simpa using h
        exact ⟨rfl, ⟨by intro _; first | exact h' | (have := hP; simp_all), by omega, by omega⟩, (Weak.mk [some 0, some 1, some 2] _ _ _ U U U U (by (repeat' (first | exact trivial | refine And.intro ?_ ?_ | refine ⟨_, U, _, U, ?_⟩ | exact VLe.refl _)); done) (by (repeat' (first | exact trivial | refine And.intro ?_ ?_ | refine ⟨_, U, _, U, _, U, ?_⟩ | exact VLe.refl _)); done))⟩
    by_cases hm1 : m = 1
    · subst hm1
      repeat' (first | ((with_reducible refine D.nil ?_); refine AX.nilL ?_) | ((with_reducible refine D.load ?_); first | refine L.ldb U U U U U U ?_ | refine L.lda U U U U U ?_) | ((with_reducible refine D.move ?_); refine L.mv U U U ?_) | ((with_reducible refine D.assign ?_); refine L.asg U U U ?_) | ((with_reducible refine D.bin ?_); refine L.bn U U U U U ?_) | ((with_reducible refine D.call ?_); refine L.c2 (ib) U U U U ?_) | ((with_reducible refine D.extract ?_); refine L.ex U U U U ?_) | ((with_reducible refine D.alloc ?_); refine L.al U U U ?_) | ((with_reducible refine D.store ?_); refine L.st U U U U U U U U U ?_) | ((with_reducible refine D.indexAddr ?_); first | refine L.ixt _ U U U U U U U (by assumption) ?_ | refine L.ixb 1 U U U U U (by decide) U ?_) | ((with_reducible refine D.ax ?_); refine L.bd U U U U U ?_) | ((with_reducible refine D.aw ?_); first | refine K.sq (AW.regL ?_) | refine K.sq (K.sq ?_) | refine AW.regL ?_ | refine AW.condS U (fun h => ?_) (fun h => ?_) | refine AW.skip ?_ | refine AW.ret ?_) | with_reducible refine K.tN ?_ | with_reducible refine K.bN ?_ | with_reducible refine K.tR ?_ | with_reducible refine K.bR ?_ | with_reducible refine K.gR ?_ | with_reducible refine K.r1 (by with_unfolding_all rfl) (by with_unfolding_all rfl) ?_)
      · have h' : (b.inf g).2 ≠ 0 := by simpa using h
        have za : (a.inf g).2 = 0 := by have := hP; simp_all
        have er : (Tm.mk k i th [a, b, c]).inf g = (noTy, (b.inf g).2) := by rw [hinf]; simp [Tm.infs, h', za]
        rw [er]; rfl
      · have h' : (b.inf g).2 = 0 := by simpa using h
        exact ⟨rfl, ⟨by intro _; first | exact h' | (have := hP; simp_all), by intro _; first | exact h' | (have := hP; simp_all), by omega⟩, (Weak.mk [some 0, some 1, some 2] _ _ _ U U U U (by (repeat' (first | exact trivial | refine And.intro ?_ ?_ | refine ⟨_, U, _, U, ?_⟩ | exact VLe.refl _)); done) (by (repeat' (first | exact trivial | refine And.intro ?_ ?_ | refine ⟨_, U, _, U, _, U, ?_⟩ | exact VLe.refl _)); done))⟩
    obtain rfl : m = 2 := by omega
    repeat' (first | ((with_reducible refine D.nil ?_); refine AX.nilL ?_) | ((with_reducible refine D.load ?_); first | refine L.ldb U U U U U U ?_ | refine L.lda U U U U U ?_) | ((with_reducible refine D.move ?_); refine L.mv U U U ?_) | ((with_reducible refine D.assign ?_); refine L.asg U U U ?_) | ((with_reducible refine D.bin ?_); refine L.bn U U U U U ?_) | ((with_reducible refine D.call ?_); refine L.c2 (ic) U U U U ?_) | ((with_reducible refine D.extract ?_); refine L.ex U U U U ?_) | ((with_reducible refine D.alloc ?_); refine L.al U U U ?_) | ((with_reducible refine D.store ?_); refine L.st U U U U U U U U U ?_) | ((with_reducible refine D.indexAddr ?_); first | refine L.ixt _ U U U U U U U (by assumption) ?_ | refine L.ixb 2 U U U U U (by decide) U ?_) | ((with_reducible refine D.ax ?_); refine L.bd U U U U U ?_) | ((with_reducible refine D.aw ?_); first | refine K.sq (AW.regL ?_) | refine K.sq (K.sq ?_) | refine AW.regL ?_ | refine AW.condS U (fun h => ?_) (fun h => ?_) | refine AW.skip ?_ | refine AW.ret ?_) | with_reducible refine K.tN ?_ | with_reducible refine K.bN ?_ | with_reducible refine K.tR ?_ | with_reducible refine K.bR ?_ | with_reducible refine K.gR ?_ | with_reducible refine K.r1 (by with_unfolding_all rfl) (by with_unfolding_all rfl) ?_)
    · have h' : (c.inf g).2 ≠ 0 := by simpa using h
      have za : (a.inf g).2 = 0 := by have := hP; simp_all
      have zb : (b.inf g).2 = 0 := by have := hP; simp_all
      have er : (Tm.mk k i th [a, b, c]).inf g = (noTy, (c.inf g).2) := by rw [hinf]; simp [Tm.infs, h', za, zb]
      rw [er]; rfl
    · have h' : (c.inf g).2 = 0 := by simpa using h
      exact ⟨rfl, ⟨by intro _; first | exact h' | (have := hP; simp_all), by intro _; first | exact h' | (have := hP; simp_all), by intro _; first | exact h' | (have := hP; simp_all)⟩, (Weak.mk [some 0, some 1, some 2] _ _ _ U U U U (by (repeat' (first | exact trivial | refine And.intro ?_ ?_ | refine ⟨_, U, _, U, ?_⟩ | exact VLe.refl _)); done) (by (repeat' (first | exact trivial | refine And.intro ?_ ?_ | refine ⟨_, U, _, U, _, U, ?_⟩ | exact VLe.refl _)); done))⟩
  · intro hP
    have za : (a.inf g).2 = 0 := by have := hP; simp_all
    have zb : (b.inf g).2 = 0 := by have := hP; simp_all
    have zc : (c.inf g).2 = 0 := by have := hP; simp_all
    have er : (Tm.mk k i th [a, b, c]).inf g = rule k th [(a.inf g).1, (b.inf g).1, (c.inf g).1] := by rw [hinf]; simp [Tm.infs, za, zb, zc]
    have hnode := hnode za zb zc
    repeat' (first | ((with_reducible refine D.nil ?_); refine AX.nilL ?_) | ((with_reducible refine D.load ?_); refine L.ldb U U U U U U ?_) | ((with_reducible refine D.assign ?_); refine L.asg U U U ?_) | ((with_reducible refine D.call ?_); refine L.c2 (hnode) U U U U ?_) | ((with_reducible refine D.extract ?_); refine L.ex U U U U ?_) | ((with_reducible refine D.store ?_); refine L.st U U U U U U U U U ?_) | ((with_reducible refine D.aw ?_); first | refine K.sq (AW.regL ?_) | refine AW.ret ?_) | with_reducible refine K.tN ?_ | with_reducible refine K.r1 (by with_unfolding_all rfl) (by with_unfolding_all rfl) ?_)
    rw [er]
    simp [tupV, V.wk, V.wks, constV, Sz.view]
theorem ctypeOf_c : ∀ (n : Nat) (t : Tm) (g : List Ty), t.full ≤ n → t.shape = true → (∀ x ∈ g, x.err = 0) → g.length + n < 274877906944 → CT t g := by
  intro n
  induction n with
  | zero => intro t g h; have := t.full_pos; omega
  | succ n ih =>
  intro t g hsz hsh hg hgn
  have hsz' := Tm.full_eq t
  have hak := arK_len hsh
  have hargs := shape_args hsh
  by_cases k1 : t.kind = 1
  · exact ct1 t g hsh (by omega) k1
  have hih : ∀ x ∈ t.args, ∀ g' : List Ty, (∀ y ∈ g', y.err = 0) → g'.length + n < 274877906944 → CT x g' := fun x hx g' hg' hl => ih x g' (by have := lsum_mem Tm.full hx; omega) (hargs x hx) hg' hl
  have hth : typedK t.kind = true → t.ty.err = 0 := shape_ty hsh
  clear hsz hsz' ih
  obtain ⟨k, i, th, xs⟩ := t
  simp only [Tm.kind_mk, Tm.args_mk, Tm.ty_mk] at *
  by_cases k2 : k = 2
  · subst k2
    obtain ⟨a, rfl⟩ := len_1 (Option.some.inj hak).symm
    refine ct2 i th a g hsh hg (by omega) (hih a (by simp) (g ++ [th]) ?_ (by simp; omega))
    intro x hx
    rcases List.mem_append.1 hx with hx | hx
    · exact hg x hx
    · simp at hx; subst hx; exact hth rfl
  · have hx : ∀ x ∈ xs, CT x g := fun x hx => hih x hx g hg (by omega)
    rcases arK_cases hak with ⟨hn, hk⟩ | ⟨hn, hk⟩ | ⟨hn, hk⟩ | ⟨hn, hk⟩
    · have hL := List.eq_nil_of_length_eq_zero hn
      subst hL
      exact cn0 k i th g hsh k1 k2 hg
    · obtain ⟨a, rfl⟩ := len_1 hn
      exact cn1 k i th a g hsh k1 k2 hg (hx a (by simp))
    · obtain ⟨a, b, rfl⟩ := len_2 hn
      exact cn2 k i th a b g hsh k1 k2 hg (hx a (by simp)) (hx b (by simp))
    · obtain ⟨a, b, c, rfl⟩ := len_3 hn
      exact cn3 k i th a b c g hsh k1 k2 hg (hx a (by simp)) (hx b (by simp)) (hx c (by simp))
end Go.Ab
namespace Go.Ab
open Go Go.Proofs
set_option maxRecDepth 100000
set_option maxHeartbeats 4000000
set_option linter.all false
theorem tof_c (k : Int) (l : List Tm) : PC E 107 [.i k, .s .tm l] (.agg (Tm.mk k 0 (.mk 0 []) l).view) := by
  refine AC.mk Tryz.func107 rfl rfl rfl rfl rfl (Nat.le_of_ble_eq_true rfl) ?_
  repeat' (first | ((with_reducible refine D.nil ?_); refine AX.nilL ?_) | ((with_reducible refine D.move ?_); refine L.mv U U U ?_) | ((with_reducible refine D.alloc ?_); refine L.al U U U ?_) | ((with_reducible refine D.store ?_); refine L.st U U U U U U U U U ?_) | ((with_reducible refine D.ax ?_); refine L.bd U U U U U ?_) | ((with_reducible refine D.aw ?_); first | refine K.sq (AW.regL ?_) | refine AW.ret ?_) | with_reducible refine K.tN ?_ | with_reducible refine K.r1 (by with_unfolding_all rfl) (by with_unfolding_all rfl) ?_)
  simp [tupV, V.wk, V.wks, constV, Ty.view, Tm.view]
theorem ownTm_c : ∀ (b : Nat) (t : Tm), t.full ≤ b → b < 1099511627776 → PC E 158 [.agg t.view] (.agg t.view) := by
  intro b
  induction b with
  | zero => intro t h; have := t.full_pos; omega
  | succ b ih =>
  intro t hsz hb
  have hsz' := Tm.full_eq t
  have hlen := lsum_len Tm.full Tm.full_pos t.args
  have hty := ownTy_c _ t.ty (Nat.le_refl _) (by omega)
  refine AC.mk Tryz.func158 rfl rfl rfl rfl rfl (Nat.le_of_ble_eq_true rfl) ?_
  repeat' (first | ((with_reducible refine D.nil ?_); first | refine AX.nilL ?_ | refine AX.nilD (by kernel_rfl) ?_) | ((with_reducible refine D.load ?_); refine L.ldb U U U U U U ?_) | ((with_reducible refine D.move ?_); refine L.mv U U U ?_) | ((with_reducible refine D.fieldAddr ?_); refine L.fab U U U U U ?_) | ((with_reducible refine D.call ?_); first | refine L.lnt U U U U ?_ | refine L.c2 (hty) U U U U ?_) | ((with_reducible refine D.box ?_); refine L.bx U U U U ?_) | ((with_reducible refine D.alloc ?_); refine L.al U U U ?_) | ((with_reducible refine D.store ?_); refine L.st U U U U U U U U U ?_) | ((with_reducible refine D.ax ?_); refine L.bd U U U U U ?_) | ((with_reducible refine D.aw ?_); first | refine K.sq (AW.regL ?_) | refine K.sq (AW.regD mixed (by kernel_rfl) ?_) | refine K.sq (K.sq ?_) | refine AW.regL ?_) | with_reducible refine K.tN ?_)
  refine AW.range t.args.length (fun m => True)
    (fun m => ([(1, .ptr 0 0), (2, .ptr 1 0), (3, .ptr 2 0), (15, .s .tm t.args), (16, .i t.args.length), (17, .i m)], ⟨4, [(0, .var t.view), (1, .var [.i 0, .i 0, .i 0, .slice .nil (.t .ty []), .slice .nil (.t .tm [])]), (2, .var [.i t.kind, .i t.index, .i t.ty.kind, .s .ty t.ty.args, .slice (.own 3) (.t .tm (t.args.take m))]), (3, .row)]⟩))
    (by omega) (fun m => rfl) (fun m => rfl) U trivial (Weak.mk [some 0, some 1, some 2, none] _ _ _ U U U U (by (repeat' (first | exact trivial | refine And.intro ?_ ?_ | refine ⟨_, U, _, U, ?_⟩ | exact VLe.refl _)); done) (by (repeat' (first | exact trivial | exact Or.inl U | refine And.intro ?_ ?_ | refine ⟨_, U, _, U, _, U, ?_⟩ | exact VLe.refl _)); done)) ?_ ?_
  · intro m hm hP
    have hs2 := lsum_mem Tm.full (List.getElem_mem hm)
    repeat' (first | ((with_reducible refine D.nil ?_); first | refine AX.nilL ?_ | refine AX.nilD (by kernel_rfl) ?_) | ((with_reducible refine D.load ?_); first | refine L.ldb U U U U U U ?_ | refine L.lda U U U U U ?_) | ((with_reducible refine D.fieldAddr ?_); refine L.fab U U U U U ?_) | ((with_reducible refine D.call ?_); first | refine L.apt U U U U U U (by first | exact trivial | exact ⟨rfl, trivial⟩) U U (by first | omega | (simp; omega)) ?_ | refine L.c2 (ih _ ?_ ?_) U U U U ?_) | ((with_reducible refine D.alloc ?_); refine L.al U U U ?_) | ((with_reducible refine D.store ?_); refine L.st U U U U U U U U U ?_) | ((with_reducible refine D.indexAddr ?_); refine L.ixt _ U U U U U U U (by assumption) ?_) | ((with_reducible refine D.ax ?_); refine L.bs1 U U U U U (EC.fold_of U) U U ?_) | ((with_reducible refine D.aw ?_); first | refine K.sq (AW.regL ?_) | refine AW.regD mixed (by kernel_rfl) ?_) | with_reducible refine K.tN ?_ | with_reducible refine K.bN ?_ | ((with_reducible show @LE.le Nat _ _ _); omega) | ((with_reducible show @LT.lt Nat _ _ _); omega))
    exact ⟨rfl, trivial, (Weak.mk [some 0, some 1, some 2, some 5] _ _ _ U U U U (by (repeat' (first | exact trivial | refine And.intro ?_ ?_ | refine ⟨_, U, _, U, ?_⟩ | exact VLe.refl _)); done) (by (repeat' (first | exact trivial | exact Or.inr ⟨_, U, rfl⟩ | refine And.intro ?_ ?_ | refine ⟨_, U, _, U, _, U, ?_⟩ | exact VLe.refl _ | exact VLe.of_eq (by simp [Sto.upd, List.take_append_getElem]))); done))⟩
  · intro hP
    repeat' (first | ((with_reducible refine D.nil ?_); refine AX.nilL ?_) | ((with_reducible refine D.load ?_); refine L.ldb U U U U U U ?_) | ((with_reducible refine D.store ?_); refine L.st U U U U U U U U U ?_) | ((with_reducible refine D.aw ?_); first | refine K.sq (AW.regL ?_) | refine AW.ret ?_) | with_reducible refine K.tN ?_ | with_reducible refine K.r1 (by with_unfolding_all rfl) (by with_unfolding_all rfl) ?_)
    simp [tupV, V.wk, V.wks, constV, Ty.view, Tm.view]
end Go.Ab
namespace Go.Ab
open Go Go.Proofs
set_option maxRecDepth 100000
set_option maxHeartbeats 4000000
set_option linter.all false
def lamsT (b : Tm) (l : List Ty) : Tm := l.foldr lmT b
def dflS (t : Ty) : Tm := if t.err = 0 then dfl t else noTm
end Go.Ab
namespace Go.Ab
open Go Go.Proofs
set_option maxRecDepth 100000
set_option maxHeartbeats 4000000
set_option linter.all false
theorem quantifier_c (k : Int) : PC E 164 [.i k] (.bool (quantK k)) := by
  refine AC.mk Tryz.func164 rfl rfl rfl rfl rfl (Nat.le_of_ble_eq_true rfl) ?_
  repeat' (first | ((with_reducible refine D.nil ?_); refine AX.nilL ?_) | ((with_reducible refine D.move ?_); first | refine L.mv U U U ?_ | refine AX.sk U U ?_ | ((fail_if_success refine AX.wt U ?_); refine AX.gs U U (fun _ => trivial) (fun h => ?_) (fun h => ?_))) | ((with_reducible refine D.assign ?_); refine L.asg U U U ?_) | ((with_reducible refine D.bin ?_); first | refine L.bn U U U U U ?_ | refine AX.sk U U ?_) | ((with_reducible refine D.pick ?_); refine L.pk U U U U ?_) | ((with_reducible refine D.aw ?_); first | refine K.sq (AW.regL ?_) | refine AW.ret ?_) | with_reducible refine K.tN ?_ | with_reducible refine K.r1 (by with_unfolding_all rfl) (by with_unfolding_all rfl) ?_)
  all_goals (simp_all [tupV, V.wk, V.wks, constV, quantK]; try omega)
theorem formed_c (f : Fm) (ht : f.ty.size < 1099511627776) : PC E 182 [.agg f.view] (.bool f.head) := by
  have h1 := noType_c f.ty
  have h2 := checkTy_c f.ty ht
  have hok := Ty.ok_err f.ty
  obtain ⟨k, h, ts, fs⟩ := f
  simp only [Fm.ty_mk] at *
  have hk : k = 1 ∨ k = 2 ∨ k = 3 ∨ k = 4 ∨ k = 5 ∨ k = 6 ∨ k = 7 ∨ (k ≠ 1 ∧ k ≠ 2 ∧ k ≠ 3 ∧ k ≠ 4 ∧ k ≠ 5 ∧ k ≠ 6 ∧ k ≠ 7) := by omega
  rcases hk with rfl | rfl | rfl | rfl | rfl | rfl | rfl | hk
  · cases hn : h.isNo with
    | false =>
      rw [hn] at h1
      refine AC.mk Tryz.func182 rfl rfl rfl rfl rfl (Nat.le_of_ble_eq_true rfl) ?_
      repeat' (first | ((with_reducible refine D.nil ?_); refine AX.nilL ?_) | ((with_reducible refine D.load ?_); refine L.ldb U U U U U U ?_) | ((with_reducible refine D.move ?_); refine L.mv U U U ?_) | ((with_reducible refine D.fieldAddr ?_); refine L.fab U U U U U ?_) | ((with_reducible refine D.assign ?_); refine L.asg U U U ?_) | ((with_reducible refine D.bin ?_); refine L.bn U U U U U ?_) | ((with_reducible refine D.call ?_); refine L.c2 (h1) U U U U ?_) | ((with_reducible refine D.box ?_); refine L.bx U U U U ?_) | ((with_reducible refine D.not ?_); refine L.nt U U U ?_) | ((with_reducible refine D.aw ?_); first | ((with_reducible refine D.blk ?_); refine AW.block ?_) | refine K.sq (AW.regL ?_) | refine K.sq (K.sq ?_) | refine AW.regL ?_ | refine AW.condT U ?_ | refine AW.condF U ?_ | refine AW.ret ?_) | with_reducible refine K.tN ?_ | with_reducible refine K.bN ?_ | with_reducible refine K.tR ?_ | with_reducible refine K.r1 (by with_unfolding_all rfl) (by with_unfolding_all rfl) ?_)
      simp [tupV, V.wk, V.wks, constV, Fm.head, hn]
    | true =>
      rw [hn] at h1
      refine AC.mk Tryz.func182 rfl rfl rfl rfl rfl (Nat.le_of_ble_eq_true rfl) ?_
      repeat' (first | ((with_reducible refine D.nil ?_); refine AX.nilL ?_) | ((with_reducible refine D.load ?_); first | refine L.ldb U U U U U U ?_ | refine AX.sk U U ?_) | ((with_reducible refine D.move ?_); first | refine L.mv U U U ?_ | refine AX.sk U U ?_) | ((with_reducible refine D.fieldAddr ?_); first | refine L.fab U U U U U ?_ | refine AX.sk U U ?_ | ((fail_if_success refine AX.wt U ?_); refine AX.gs U U (fun _ => trivial) (fun h => ?_) (fun h => ?_))) | ((with_reducible refine D.assign ?_); refine L.asg U U U ?_) | ((with_reducible refine D.bin ?_); first | refine L.bn U U U U U ?_ | refine AX.sk U U ?_) | ((with_reducible refine D.call ?_); first | refine L.lnt U U U U ?_ | refine L.c2 (h1) U U U U ?_ | refine AX.sk U U ?_) | ((with_reducible refine D.box ?_); refine L.bx U U U U ?_) | ((with_reducible refine D.not ?_); refine L.nt U U U ?_) | ((with_reducible refine D.pick ?_); refine L.pk U U U U ?_) | ((with_reducible refine D.aw ?_); first | ((with_reducible refine D.blk ?_); refine AW.block ?_) | refine K.sq (AW.regL ?_) | refine K.sq (K.sq ?_) | refine AW.regL ?_ | refine AW.condT U ?_ | refine AW.condF U ?_ | refine AW.skip ?_ | refine AW.ret ?_) | with_reducible refine K.tN ?_ | with_reducible refine K.bN ?_ | with_reducible refine K.r1 (by with_unfolding_all rfl) (by with_unfolding_all rfl) ?_)
      · have h' : ts.length = 2 := by simp at h; omega
        have e : ((fs.length : Int) == 0) = (fs.length == 0) := by rw [Bool.eq_iff_iff]; simp
        simp [tupV, V.wk, V.wks, constV, Fm.head, hn, h', e]
      · have h' : ¬ ts.length = 2 := by simp at h; omega
        simp [tupV, V.wk, V.wks, constV, Fm.head, hn, h']
  all_goals first
    | (cases hn : h.isNo with
       | false =>
         rw [hn] at h1
         refine AC.mk Tryz.func182 rfl rfl rfl rfl rfl (Nat.le_of_ble_eq_true rfl) ?_
         repeat' (first | ((with_reducible refine D.nil ?_); refine AX.nilL ?_) | ((with_reducible refine D.load ?_); refine L.ldb U U U U U U ?_) | ((with_reducible refine D.move ?_); refine L.mv U U U ?_) | ((with_reducible refine D.fieldAddr ?_); refine L.fab U U U U U ?_) | ((with_reducible refine D.assign ?_); refine L.asg U U U ?_) | ((with_reducible refine D.bin ?_); refine L.bn U U U U U ?_) | ((with_reducible refine D.call ?_); refine L.c2 (h1) U U U U ?_) | ((with_reducible refine D.box ?_); refine L.bx U U U U ?_) | ((with_reducible refine D.not ?_); refine L.nt U U U ?_) | ((with_reducible refine D.aw ?_); first | ((with_reducible refine D.blk ?_); refine AW.block ?_) | refine K.sq (AW.regL ?_) | refine K.sq (K.sq ?_) | refine AW.regL ?_ | refine AW.condT U ?_ | refine AW.condF U ?_ | refine AW.condS U (fun h => ?_) (fun h => ?_) | refine AW.skip ?_ | refine AW.ret ?_) | with_reducible refine K.tN ?_ | with_reducible refine K.bN ?_ | with_reducible refine K.tR ?_ | with_reducible refine K.bR ?_ | with_reducible refine K.r1 (by with_unfolding_all rfl) (by with_unfolding_all rfl) ?_)
         simp [tupV, V.wk, V.wks, constV, Fm.head, hn]
         done
       | true =>
         rw [hn] at h1
         refine AC.mk Tryz.func182 rfl rfl rfl rfl rfl (Nat.le_of_ble_eq_true rfl) ?_
         repeat' (first | ((with_reducible refine D.nil ?_); refine AX.nilL ?_) | ((with_reducible refine D.load ?_); first | refine L.ldb U U U U U U ?_ | refine AX.sk U U ?_) | ((with_reducible refine D.move ?_); first | refine L.mv U U U ?_ | refine AX.sk U U ?_) | ((with_reducible refine D.fieldAddr ?_); first | refine L.fab U U U U U ?_ | refine AX.sk U U ?_ | ((fail_if_success refine AX.wt U ?_); refine AX.gs U U (fun _ => trivial) (fun h => ?_) (fun h => ?_))) | ((with_reducible refine D.assign ?_); refine L.asg U U U ?_) | ((with_reducible refine D.bin ?_); first | refine L.bn U U U U U ?_ | refine AX.sk U U ?_) | ((with_reducible refine D.call ?_); first | refine L.lnt U U U U ?_ | refine L.c2 (h1) U U U U ?_ | refine AX.sk U U ?_) | ((with_reducible refine D.box ?_); refine L.bx U U U U ?_) | ((with_reducible refine D.not ?_); refine L.nt U U U ?_) | ((with_reducible refine D.pick ?_); refine L.pk U U U U ?_) | ((with_reducible refine D.aw ?_); first | ((with_reducible refine D.blk ?_); refine AW.block ?_) | refine K.sq (AW.regL ?_) | refine K.sq (K.sq ?_) | refine AW.regL ?_ | refine AW.condT U ?_ | refine AW.condF U ?_ | refine AW.skip ?_ | refine AW.ret ?_) | with_reducible refine K.tN ?_ | with_reducible refine K.bN ?_ | with_reducible refine K.r1 (by with_unfolding_all rfl) (by with_unfolding_all rfl) ?_)
         · have h' : ts.length = 0 := by simp at h; simp [h]
           have e : ((fs.length : Int) == 2) = (fs.length == 2) := by rw [Bool.eq_iff_iff]; simp; omega
           simp [tupV, V.wk, V.wks, constV, Fm.head, hn, h', e]
         · have h' : ¬ ts.length = 0 := by simp at h; simpa using h
           simp [tupV, V.wk, V.wks, constV, Fm.head, hn, h']
           done)
    | (by_cases hn : h.err = 0
       · rw [hn] at h2
         refine AC.mk Tryz.func182 rfl rfl rfl rfl rfl (Nat.le_of_ble_eq_true rfl) ?_
         repeat' (first | ((with_reducible refine D.nil ?_); refine AX.nilL ?_) | ((with_reducible refine D.load ?_); first | refine L.ldb U U U U U U ?_ | refine AX.sk U U ?_) | ((with_reducible refine D.move ?_); first | refine L.mv U U U ?_ | refine AX.sk U U ?_) | ((with_reducible refine D.fieldAddr ?_); first | refine L.fab U U U U U ?_ | refine AX.sk U U ?_ | ((fail_if_success refine AX.wt U ?_); refine AX.gs U U (fun _ => trivial) (fun h => ?_) (fun h => ?_))) | ((with_reducible refine D.assign ?_); refine L.asg U U U ?_) | ((with_reducible refine D.bin ?_); first | refine L.bn U U U U U ?_ | refine AX.sk U U ?_) | ((with_reducible refine D.call ?_); first | refine L.lnt U U U U ?_ | refine L.c2 (h2) U U U U ?_ | refine AX.sk U U ?_) | ((with_reducible refine D.extract ?_); refine L.ex U U U U ?_) | ((with_reducible refine D.box ?_); refine L.bx U U U U ?_) | ((with_reducible refine D.pick ?_); refine L.pk U U U U ?_) | ((with_reducible refine D.aw ?_); first | ((with_reducible refine D.blk ?_); refine AW.block ?_) | refine K.sq (AW.regL ?_) | refine K.sq (K.sq ?_) | refine AW.regL ?_ | refine AW.condT U ?_ | refine AW.condF U ?_ | refine AW.condS U (fun h => ?_) (fun h => ?_) | refine AW.skip ?_ | refine AW.ret ?_) | with_reducible refine K.tN ?_ | with_reducible refine K.bN ?_ | with_reducible refine K.tR ?_ | with_reducible refine K.bR ?_ | with_reducible refine K.r1 (by with_unfolding_all rfl) (by with_unfolding_all rfl) ?_)
         · have h' : ts.length = 0 := by simp at h; simp [h]
           have e : ((fs.length : Int) == 1) = (fs.length == 1) := by rw [Bool.eq_iff_iff]; simp; omega
           simp [tupV, V.wk, V.wks, constV, Fm.head, hok, hn, h', e]
         · have h' : ¬ ts.length = 0 := by simp at h; simpa using h
           simp [tupV, V.wk, V.wks, constV, Fm.head, hok, hn, h']
           done
       · have hb : (h.err != 0) = true := by simpa using hn
         refine AC.mk Tryz.func182 rfl rfl rfl rfl rfl (Nat.le_of_ble_eq_true rfl) ?_
         repeat' (first | ((with_reducible refine D.nil ?_); refine AX.nilL ?_) | ((with_reducible refine D.load ?_); first | refine L.ldb U U U U U U ?_ | refine AX.sk U U ?_) | ((with_reducible refine D.move ?_); first | refine L.mv U U U ?_ | refine AX.sk U U ?_) | ((with_reducible refine D.fieldAddr ?_); first | refine L.fab U U U U U ?_ | refine AX.sk U U ?_ | ((fail_if_success refine AX.wt U ?_); refine AX.gs U U (fun _ => trivial) (fun h => ?_) (fun h => ?_))) | ((with_reducible refine D.assign ?_); refine L.asg U U U ?_) | ((with_reducible refine D.bin ?_); first | refine L.bn U U U U U ?_ | refine AX.sk U U ?_) | ((with_reducible refine D.call ?_); first | refine L.lnt U U U U ?_ | refine L.c2 (h2) U U U U ?_ | refine AX.sk U U ?_) | ((with_reducible refine D.extract ?_); refine L.ex U U U U ?_) | ((with_reducible refine D.box ?_); refine L.bx U U U U ?_) | ((with_reducible refine D.pick ?_); refine L.pk U U U U ?_) | ((with_reducible refine D.aw ?_); first | ((with_reducible refine D.blk ?_); refine AW.block ?_) | refine K.sq (AW.regL ?_) | refine K.sq (K.sq ?_) | refine AW.regL ?_ | refine AW.condT U ?_ | refine AW.condF U ?_ | refine AW.condS U (fun h => ?_) (fun h => ?_) | refine AW.skip ?_ | refine AW.ret ?_) | with_reducible refine K.tN ?_ | with_reducible refine K.bN ?_ | with_reducible refine K.tR ?_ | with_reducible refine K.r1 (by with_unfolding_all rfl) (by with_unfolding_all rfl) ?_)
         · simp [tupV, V.wk, V.wks, constV, Fm.head, hok, hn]
         all_goals (exfalso; simp_all; done))
    | (refine AC.mk Tryz.func182 rfl rfl rfl rfl rfl (Nat.le_of_ble_eq_true rfl) ?_
       repeat' (first | ((with_reducible refine D.nil ?_); refine AX.nilL ?_) | ((with_reducible refine D.load ?_); refine L.ldb U U U U U U ?_) | ((with_reducible refine D.move ?_); refine L.mv U U U ?_) | ((with_reducible refine D.fieldAddr ?_); refine L.fab U U U U U ?_) | ((with_reducible refine D.assign ?_); refine L.asg U U U ?_) | ((with_reducible refine D.bin ?_); refine L.bn U U U U U ?_) | ((with_reducible refine D.box ?_); refine L.bx U U U U ?_) | ((with_reducible refine D.aw ?_); first | ((with_reducible refine D.blk ?_); refine AW.block ?_) | refine K.sq (AW.regL ?_) | refine K.sq (K.sq ?_) | refine AW.regL ?_ | refine AW.condT U ?_ | refine AW.condF U ?_ | refine AW.condS U (fun h => ?_) (fun h => ?_) | refine AW.skip ?_ | refine AW.ret ?_) | with_reducible refine K.tN ?_ | with_reducible refine K.bN ?_ | with_reducible refine K.tR ?_ | with_reducible refine K.bR ?_ | with_reducible refine K.r1 (by with_unfolding_all rfl) (by with_unfolding_all rfl) ?_)
       all_goals first
         | (exfalso; simp_all; done)
         | (simp [tupV, V.wk, V.wks, constV, Fm.head, hk]; done))
end Go.Ab
namespace Go.Ab
open Go Go.Proofs
set_option maxRecDepth 100000
set_option maxHeartbeats 4000000
set_option linter.all false
theorem formulaNodes_c : ∀ (b : Nat) (f : Fm), f.full ≤ b → b < 1099511627776 → PC E 163 [.agg f.view] (.tup [.i f.nodes, .bool f.shape]) := by
  intro b
  induction b with
  | zero => intro f h; have := f.full_pos; omega
  | succ b ih =>
  intro f hsz hb
  have hsz' := f.full_eq
  have hse := f.size_eq
  have hle := f.size_le_full
  have hlen := lsum_len Fm.full Fm.full_pos f.args
  have hlen2 := lsum_len Tm.full Tm.full_pos f.terms
  have hsh := f.shape_eq
  have h1 := formed_c f (by omega)
  cases hh : f.head with
  | false =>
    rw [hh] at h1 hsh
    have e : f.shape = false := by rw [hsh]; rfl
    rw [show f.nodes = 0 by simp [Fm.nodes, e], e]
    refine AC.mk Tryz.func163 rfl rfl rfl rfl rfl (Nat.le_of_ble_eq_true rfl) ?_
    repeat' (first | ((with_reducible refine D.nil ?_); refine AX.nilL ?_) | ((with_reducible refine D.load ?_); refine L.ldb U U U U U U ?_) | ((with_reducible refine D.assign ?_); refine L.asg U U U ?_) | ((with_reducible refine D.call ?_); refine L.c2 (h1) U U U U ?_) | ((with_reducible refine D.box ?_); refine L.bx U U U U ?_) | ((with_reducible refine D.not ?_); refine L.nt U U U ?_) | ((with_reducible refine D.aw ?_); first | refine K.sq (AW.regL ?_) | refine K.sq (K.sq ?_) | refine AW.regL ?_ | refine AW.condT U ?_ | refine AW.ret ?_) | with_reducible refine K.tN ?_ | with_reducible refine K.tR ?_ | with_reducible refine K.r1 (by with_unfolding_all rfl) (by with_unfolding_all rfl) ?_)
    rfl
  | true =>
  rw [hh] at h1 hsh
  refine AC.mk Tryz.func163 rfl rfl rfl rfl rfl (Nat.le_of_ble_eq_true rfl) ?_
  repeat' (first | ((with_reducible refine D.nil ?_); refine AX.nilL ?_) | ((with_reducible refine D.load ?_); refine L.ldb U U U U U U ?_) | ((with_reducible refine D.move ?_); refine L.mv U U U ?_) | ((with_reducible refine D.fieldAddr ?_); refine L.fab U U U U U ?_) | ((with_reducible refine D.assign ?_); refine L.asg U U U ?_) | ((with_reducible refine D.call ?_); first | refine L.lnt U U U U ?_ | refine L.c2 (h1) U U U U ?_) | ((with_reducible refine D.box ?_); refine L.bx U U U U ?_) | ((with_reducible refine D.not ?_); refine L.nt U U U ?_) | ((with_reducible refine D.aw ?_); first | refine K.sq (AW.regL ?_) | refine K.sq (K.sq ?_) | refine AW.regL ?_ | refine AW.condF U ?_ | refine AW.skip ?_) | with_reducible refine K.tN ?_)
  refine AW.range f.terms.length (fun m => ∀ j (hj : j < f.terms.length), j < m → (f.terms[j]).shape = true)
    (fun m => ([(1, .ptr 0 0), (4, .i (1 + ((f.terms.take m).map Tm.size).sum : Nat)), (17, .s .tm f.terms), (18, .i f.terms.length), (19, .i m)], ⟨1, [(0, .var f.view)]⟩))
    (by omega) (fun m => rfl) (fun m => rfl) U (fun j hj h => by omega) (Weak.mk [some 0] _ _ _ U U U U (by (repeat' (first | exact trivial | refine And.intro ?_ ?_ | refine ⟨_, U, _, U, ?_⟩ | exact VLe.refl _)); done) (by (repeat' (first | exact trivial | refine And.intro ?_ ?_ | refine ⟨_, U, _, U, _, U, ?_⟩ | exact VLe.refl _)); done)) ?_ ?_
  · intro m hm hP
    have hs1 := lsum_take Tm.size f.terms m hm
    have hs2 := lsum_mem Tm.full (List.getElem_mem hm)
    have hs3 := lsum_take_le Tm.size f.terms m
    have hs4 := lsum_le (f := Tm.size) (g := Tm.full) f.terms fun x _ => x.size_le_full
    have hs5 := f.terms[m].size_le_full
    have hc := termNodes_c _ f.terms[m] (Nat.le_refl _) (by omega)
    cases hx : (f.terms[m]).shape with
    | false =>
      rw [show nodesM f.terms[m] = .tup [.i 0, .bool false] by simp [nodesM, Tm.nodes, hx]] at hc
      have e : f.shape = false := by rw [hsh, all_not Tm.shape hm hx]; rfl
      rw [show f.nodes = 0 by simp [Fm.nodes, e], e]
      repeat' (first | ((with_reducible refine D.nil ?_); refine AX.nilL ?_) | ((with_reducible refine D.load ?_); first | refine L.ldb U U U U U U ?_ | refine L.lda U U U U U ?_) | ((with_reducible refine D.move ?_); refine L.mv U U U ?_) | ((with_reducible refine D.assign ?_); refine L.asg U U U ?_) | ((with_reducible refine D.call ?_); refine L.c2 (hc) U U U U ?_) | ((with_reducible refine D.extract ?_); refine L.ex U U U U ?_) | ((with_reducible refine D.alloc ?_); refine L.al U U U ?_) | ((with_reducible refine D.store ?_); refine L.st U U U U U U U U U ?_) | ((with_reducible refine D.indexAddr ?_); refine L.ixt _ U U U U U U U (by assumption) ?_) | ((with_reducible refine D.not ?_); refine L.nt U U U ?_) | ((with_reducible refine D.aw ?_); first | refine K.sq (AW.regL ?_) | refine K.sq (K.sq ?_) | refine AW.regL ?_ | refine AW.condT U ?_ | refine AW.ret ?_) | with_reducible refine K.tN ?_ | with_reducible refine K.tR ?_ | with_reducible refine K.bR ?_ | with_reducible refine K.gR ?_ | with_reducible refine K.r1 (by with_unfolding_all rfl) (by with_unfolding_all rfl) ?_)
      rfl
    | true =>
      rw [show nodesM f.terms[m] = .tup [.i f.terms[m].size, .bool true] by simp [nodesM, Tm.nodes, hx]] at hc
      repeat' (first | ((with_reducible refine D.nil ?_); refine AX.nilL ?_) | ((with_reducible refine D.load ?_); first | refine L.ldb U U U U U U ?_ | refine L.lda U U U U U ?_) | ((with_reducible refine D.move ?_); refine L.mv U U U ?_) | ((with_reducible refine D.assign ?_); refine L.asg U U U ?_) | ((with_reducible refine D.bin ?_); refine L.ad U U U U (by omega) ?_) | ((with_reducible refine D.call ?_); refine L.c2 (hc) U U U U ?_) | ((with_reducible refine D.extract ?_); refine L.ex U U U U ?_) | ((with_reducible refine D.alloc ?_); refine L.al U U U ?_) | ((with_reducible refine D.store ?_); refine L.st U U U U U U U U U ?_) | ((with_reducible refine D.indexAddr ?_); refine L.ixt _ U U U U U U U (by assumption) ?_) | ((with_reducible refine D.not ?_); refine L.nt U U U ?_) | ((with_reducible refine D.aw ?_); first | refine K.sq (AW.regL ?_) | refine K.sq (K.sq ?_) | refine AW.regL ?_ | refine AW.condF U ?_ | refine AW.skip ?_) | with_reducible refine K.tN ?_ | with_reducible refine K.bN ?_)
      refine ⟨rfl, all_step (p := fun t => Tm.shape t = true) hm hP hx, ?_⟩
      simp only [hs1]
      exact (Weak.mk [some 0] _ _ _ U U U U (by (repeat' (first | exact trivial | refine And.intro ?_ ?_ | refine ⟨_, U, _, U, ?_⟩ | exact VLe.refl _ | exact VLe.of_eq (by simp [Sto.upd, Int.natCast_add, Int.add_assoc]))); done) (by (repeat' (first | exact trivial | refine And.intro ?_ ?_ | refine ⟨_, U, _, U, _, U, ?_⟩ | exact VLe.refl _)); done))
  · intro hP
    have hpt := all_of Tm.shape f.terms fun j hj => hP j hj hj
    rw [hpt] at hsh
    simp only [List.take_length]
    repeat' (first | ((with_reducible refine D.nil ?_); refine AX.nilL ?_) | ((with_reducible refine D.load ?_); refine L.ldb U U U U U U ?_) | ((with_reducible refine D.move ?_); refine L.mv U U U ?_) | ((with_reducible refine D.fieldAddr ?_); refine L.fab U U U U U ?_) | ((with_reducible refine D.call ?_); refine L.lnt U U U U ?_) | ((with_reducible refine D.aw ?_); first | refine K.sq (K.sq ?_) | refine AW.regL ?_) | with_reducible refine K.tN ?_)
    refine AW.range f.args.length (fun m => ∀ j (hj : j < f.args.length), j < m → (f.args[j]).shape = true)
      (fun m => ([(1, .ptr 0 0), (4, .i (1 + (f.terms.map Tm.size).sum + ((f.args.take m).map Fm.size).sum : Nat)), (35, .s .fm f.args), (36, .i f.args.length), (37, .i m)], ⟨1, [(0, .var f.view)]⟩))
      (by omega) (fun m => rfl) (fun m => rfl) U (fun j hj h => by omega) (Weak.mk [some 0] _ _ _ U U U U (by (repeat' (first | exact trivial | refine And.intro ?_ ?_ | refine ⟨_, U, _, U, ?_⟩ | exact VLe.refl _)); done) (by (repeat' (first | exact trivial | refine And.intro ?_ ?_ | refine ⟨_, U, _, U, _, U, ?_⟩ | exact VLe.refl _)); done)) ?_ ?_
    · intro m hm hP
      have hs0 := lsum_le (f := Tm.size) (g := Tm.full) f.terms fun x _ => x.size_le_full
      have hs1 := lsum_take Fm.size f.args m hm
      have hs2 := lsum_mem Fm.full (List.getElem_mem hm)
      have hs3 := lsum_take_le Fm.size f.args m
      have hs4 := lsum_le (f := Fm.size) (g := Fm.full) f.args fun x _ => x.size_le_full
      have hs5 := f.args[m].size_le_full
      have hc := ih f.args[m] (by omega) (by omega)
      cases hx : (f.args[m]).shape with
      | false =>
        rw [hx, show (f.args[m]).nodes = 0 by simp [Fm.nodes, hx]] at hc
        have e : f.shape = false := by rw [hsh, all_not Fm.shape hm hx]; rfl
        rw [show f.nodes = 0 by simp [Fm.nodes, e], e]
        repeat' (first | ((with_reducible refine D.nil ?_); refine AX.nilL ?_) | ((with_reducible refine D.load ?_); first | refine L.ldb U U U U U U ?_ | refine L.lda U U U U U ?_) | ((with_reducible refine D.move ?_); refine L.mv U U U ?_) | ((with_reducible refine D.assign ?_); refine L.asg U U U ?_) | ((with_reducible refine D.call ?_); refine L.c2 (hc) U U U U ?_) | ((with_reducible refine D.extract ?_); refine L.ex U U U U ?_) | ((with_reducible refine D.alloc ?_); refine L.al U U U ?_) | ((with_reducible refine D.store ?_); refine L.st U U U U U U U U U ?_) | ((with_reducible refine D.indexAddr ?_); refine L.ixt _ U U U U U U U (by assumption) ?_) | ((with_reducible refine D.not ?_); refine L.nt U U U ?_) | ((with_reducible refine D.aw ?_); first | refine K.sq (AW.regL ?_) | refine K.sq (K.sq ?_) | refine AW.regL ?_ | refine AW.condT U ?_ | refine AW.ret ?_) | with_reducible refine K.tN ?_ | with_reducible refine K.tR ?_ | with_reducible refine K.bR ?_ | with_reducible refine K.gR ?_ | with_reducible refine K.r1 (by with_unfolding_all rfl) (by with_unfolding_all rfl) ?_)
        rfl
      | true =>
        rw [hx, show (f.args[m]).nodes = (f.args[m]).size by simp [Fm.nodes, hx]] at hc
        repeat' (first | ((with_reducible refine D.nil ?_); refine AX.nilL ?_) | ((with_reducible refine D.load ?_); first | refine L.ldb U U U U U U ?_ | refine L.lda U U U U U ?_) | ((with_reducible refine D.move ?_); refine L.mv U U U ?_) | ((with_reducible refine D.assign ?_); refine L.asg U U U ?_) | ((with_reducible refine D.bin ?_); refine L.ad U U U U (by omega) ?_) | ((with_reducible refine D.call ?_); refine L.c2 (hc) U U U U ?_) | ((with_reducible refine D.extract ?_); refine L.ex U U U U ?_) | ((with_reducible refine D.alloc ?_); refine L.al U U U ?_) | ((with_reducible refine D.store ?_); refine L.st U U U U U U U U U ?_) | ((with_reducible refine D.indexAddr ?_); refine L.ixt _ U U U U U U U (by assumption) ?_) | ((with_reducible refine D.not ?_); refine L.nt U U U ?_) | ((with_reducible refine D.aw ?_); first | refine K.sq (AW.regL ?_) | refine K.sq (K.sq ?_) | refine AW.regL ?_ | refine AW.condF U ?_ | refine AW.skip ?_) | with_reducible refine K.tN ?_ | with_reducible refine K.bN ?_)
        refine ⟨rfl, all_step (p := fun t => Fm.shape t = true) hm hP hx, ?_⟩
        simp only [hs1]
        exact (Weak.mk [some 0] _ _ _ U U U U (by (repeat' (first | exact trivial | refine And.intro ?_ ?_ | refine ⟨_, U, _, U, ?_⟩ | exact VLe.refl _ | exact VLe.of_eq (by simp [Sto.upd, Int.natCast_add, Int.add_assoc]))); done) (by (repeat' (first | exact trivial | refine And.intro ?_ ?_ | refine ⟨_, U, _, U, _, U, ?_⟩ | exact VLe.refl _)); done))
    · intro hP
      have hpa := all_of Fm.shape f.args fun j hj => hP j hj hj
      rw [hpa] at hsh
      have e : f.shape = true := hsh
      rw [show f.nodes = f.size by simp [Fm.nodes, e], e, hse]
      simp only [List.take_length]
      repeat' (first | ((with_reducible refine D.nil ?_); refine AX.nilL ?_) | ((with_reducible refine D.move ?_); refine L.mv U U U ?_) | ((with_reducible refine D.assign ?_); refine L.asg U U U ?_) | ((with_reducible refine D.aw ?_); first | refine K.sq (AW.regL ?_) | refine AW.ret ?_) | with_reducible refine K.tN ?_ | with_reducible refine K.r1 (by with_unfolding_all rfl) (by with_unfolding_all rfl) ?_)
      rfl
theorem checkFm_c (f : Fm) (hf : f.full < 1099511627776) : PC E 118 [.agg f.view] (.tup [.i f.num, .i f.err]) := by
  have h1 := formulaNodes_c _ f (Nat.le_refl _) hf
  have hle := f.size_le_full
  cases hs : f.shape with
  | false =>
    have e : f.err = 2 := by simp [Fm.err, hs]
    rw [hs, show f.nodes = 0 by simp [Fm.nodes, hs]] at h1
    rw [show f.num = 0 by simp [Fm.num, e], e]
    refine AC.mk Tryz.func118 rfl rfl rfl rfl rfl (Nat.le_of_ble_eq_true rfl) ?_
    repeat' (first | ((with_reducible refine D.nil ?_); refine AX.nilL ?_) | ((with_reducible refine D.load ?_); refine L.ldb U U U U U U ?_) | ((with_reducible refine D.move ?_); refine L.mv U U U ?_) | ((with_reducible refine D.assign ?_); refine L.asg U U U ?_) | ((with_reducible refine D.call ?_); refine L.c2 (h1) U U U U ?_) | ((with_reducible refine D.extract ?_); refine L.ex U U U U ?_) | ((with_reducible refine D.box ?_); refine L.bx U U U U ?_) | ((with_reducible refine D.not ?_); refine L.nt U U U ?_) | ((with_reducible refine D.aw ?_); first | ((with_reducible refine D.sblk ?_); refine K.sq (AW.block ?_)) | refine K.sq (AW.regL ?_) | refine AW.condT U ?_ | refine AW.ret ?_) | with_reducible refine K.tN ?_ | with_reducible refine K.tR ?_ | with_reducible refine K.bR ?_ | with_reducible refine K.r1 (by with_unfolding_all rfl) (by with_unfolding_all rfl) ?_)
    rfl
  | true =>
    rw [hs, show f.nodes = f.size by simp [Fm.nodes, hs]] at h1
    by_cases hz : f.size > 4096
    · have e : f.err = 4 := by simp [Fm.err, hs, hz]
      rw [show f.num = 0 by simp [Fm.num, e], e]
      refine AC.mk Tryz.func118 rfl rfl rfl rfl rfl (Nat.le_of_ble_eq_true rfl) ?_
      repeat' (first | ((with_reducible refine D.nil ?_); refine AX.nilL ?_) | ((with_reducible refine D.load ?_); refine L.ldb U U U U U U ?_) | ((with_reducible refine D.move ?_); refine L.mv U U U ?_) | ((with_reducible refine D.assign ?_); refine L.asg U U U ?_) | ((with_reducible refine D.bin ?_); refine L.bn U U U U U ?_) | ((with_reducible refine D.call ?_); refine L.c2 (h1) U U U U ?_) | ((with_reducible refine D.extract ?_); refine L.ex U U U U ?_) | ((with_reducible refine D.box ?_); refine L.bx U U U U ?_) | ((with_reducible refine D.not ?_); refine L.nt U U U ?_) | ((with_reducible refine D.aw ?_); first | ((with_reducible refine D.sblk ?_); refine K.sq (AW.block ?_)) | refine K.sq (AW.regL ?_) | refine AW.condF U ?_ | refine AW.condS U (fun h => ?_) (fun h => ?_) | refine AW.skip ?_ | refine AW.ret ?_) | with_reducible refine K.tN ?_ | with_reducible refine K.bN ?_ | with_reducible refine K.tR ?_ | with_reducible refine K.bR ?_ | with_reducible refine K.r1 (by with_unfolding_all rfl) (by with_unfolding_all rfl) ?_)
      · rfl
      · exfalso; simp at h; omega
    · have e : f.err = 0 := by simp [Fm.err, hs, hz]
      rw [show f.num = f.size by simp [Fm.num, e], e]
      refine AC.mk Tryz.func118 rfl rfl rfl rfl rfl (Nat.le_of_ble_eq_true rfl) ?_
      repeat' (first | ((with_reducible refine D.nil ?_); refine AX.nilL ?_) | ((with_reducible refine D.load ?_); refine L.ldb U U U U U U ?_) | ((with_reducible refine D.move ?_); refine L.mv U U U ?_) | ((with_reducible refine D.assign ?_); refine L.asg U U U ?_) | ((with_reducible refine D.bin ?_); refine L.bn U U U U U ?_) | ((with_reducible refine D.call ?_); refine L.c2 (h1) U U U U ?_) | ((with_reducible refine D.extract ?_); refine L.ex U U U U ?_) | ((with_reducible refine D.box ?_); refine L.bx U U U U ?_) | ((with_reducible refine D.not ?_); refine L.nt U U U ?_) | ((with_reducible refine D.aw ?_); first | ((with_reducible refine D.sblk ?_); refine K.sq (AW.block ?_)) | refine K.sq (AW.regL ?_) | refine AW.condF U ?_ | refine AW.condS U (fun h => ?_) (fun h => ?_) | refine AW.skip ?_ | refine AW.ret ?_) | with_reducible refine K.tN ?_ | with_reducible refine K.bN ?_ | with_reducible refine K.tR ?_ | with_reducible refine K.bR ?_ | with_reducible refine K.r1 (by with_unfolding_all rfl) (by with_unfolding_all rfl) ?_)
      · exfalso; simp at h; omega
      · rfl
theorem fcheck_c (f : Fm) (hf : f.full < 1099511627776) : PC E 44 [.agg f.view] (.i f.err) := by
  have h1 := checkFm_c f hf
  refine AC.mk Tryz.func44 rfl rfl rfl rfl rfl (Nat.le_of_ble_eq_true rfl) ?_
  repeat' (first | ((with_reducible refine D.nil ?_); refine AX.nilL ?_) | ((with_reducible refine D.load ?_); refine L.ldb U U U U U U ?_) | ((with_reducible refine D.move ?_); refine L.mv U U U ?_) | ((with_reducible refine D.assign ?_); refine L.asg U U U ?_) | ((with_reducible refine D.call ?_); refine L.c2 (h1) U U U U ?_) | ((with_reducible refine D.extract ?_); refine L.ex U U U U ?_) | ((with_reducible refine D.box ?_); refine L.bx U U U U ?_) | ((with_reducible refine D.aw ?_); first | refine K.sq (AW.regL ?_) | refine AW.ret ?_) | with_reducible refine K.tN ?_ | with_reducible refine K.r1 (by with_unfolding_all rfl) (by with_unfolding_all rfl) ?_)
  rfl
end Go.Ab
namespace Go.Ab
open Go Go.Proofs
set_option maxRecDepth 100000
set_option maxHeartbeats 4000000
set_option linter.all false
theorem copyFm_c : ∀ (b : Nat) (f : Fm), f.full ≤ b → b < 1099511627776 → PC E 117 [.agg f.view] (.agg f.view) := by
  intro b
  induction b with
  | zero => intro f h; have := f.full_pos; omega
  | succ b ih =>
  intro f hsz hb
  have hsz' := f.full_eq
  have hlen := lsum_len Fm.full Fm.full_pos f.args
  have hlen2 := lsum_len Tm.full Tm.full_pos f.terms
  have hty := copyTy_c _ f.ty (Nat.le_refl _) (by omega)
  refine AC.mk Tryz.func117 rfl rfl rfl rfl rfl (Nat.le_of_ble_eq_true rfl) ?_
  repeat' (first | ((with_reducible refine D.nil ?_); first | refine AX.nilL ?_ | refine AX.nilD (by kernel_rfl) ?_) | ((with_reducible refine D.load ?_); refine L.ldb U U U U U U ?_) | ((with_reducible refine D.move ?_); refine L.mv U U U ?_) | ((with_reducible refine D.fieldAddr ?_); refine L.fab U U U U U ?_) | ((with_reducible refine D.call ?_); first | refine L.lnt U U U U ?_ | refine L.c2 (hty) U U U U ?_) | ((with_reducible refine D.box ?_); refine L.bx U U U U ?_) | ((with_reducible refine D.alloc ?_); refine L.al U U U ?_) | ((with_reducible refine D.store ?_); refine L.st U U U U U U U U U ?_) | ((with_reducible refine D.ax ?_); refine L.bd U U U U U ?_) | ((with_reducible refine D.aw ?_); first | refine K.sq (AW.regL ?_) | refine K.sq (AW.regD mixed (by kernel_rfl) ?_) | refine K.sq (K.sq ?_) | refine AW.regL ?_) | with_reducible refine K.tN ?_)
  refine AW.range f.terms.length (fun m => True)
    (fun m => ([(1, .ptr 0 0), (2, .ptr 1 0), (3, .ptr 2 0), (15, .s .tm f.terms), (16, .i f.terms.length), (17, .i m)], ⟨4, [(0, .var f.view), (1, .var [.i 0, .i 0, .slice .nil (.t .ty []), .slice .nil (.t .tm []), .slice .nil (.t .fm [])]), (2, .var [.i f.kind, .i f.ty.kind, .s .ty f.ty.args, .slice (.own 3) (.t .tm (f.terms.take m)), .slice .nil (.t .fm [])]), (3, .row)]⟩))
    (by omega) (fun m => rfl) (fun m => rfl) U trivial (Weak.mk [some 0, some 1, some 2, none] _ _ _ U U U U (by (repeat' (first | exact trivial | refine And.intro ?_ ?_ | refine ⟨_, U, _, U, ?_⟩ | exact VLe.refl _)); done) (by (repeat' (first | exact trivial | exact Or.inl U | refine And.intro ?_ ?_ | refine ⟨_, U, _, U, _, U, ?_⟩ | exact VLe.refl _)); done)) ?_ ?_
  · intro m hm _
    have hs2 := lsum_mem Tm.full (List.getElem_mem hm)
    repeat' (first | ((with_reducible refine D.nil ?_); first | refine AX.nilL ?_ | refine AX.nilD (by kernel_rfl) ?_) | ((with_reducible refine D.load ?_); first | refine L.ldb U U U U U U ?_ | refine L.lda U U U U U ?_) | ((with_reducible refine D.fieldAddr ?_); refine L.fab U U U U U ?_) | ((with_reducible refine D.call ?_); first | refine L.apt U U U U U U (by first | exact trivial | exact ⟨rfl, trivial⟩) U U (by first | omega | (simp; omega)) ?_ | refine L.c2 (copyTm_c _ _ (Nat.le_refl _) ?_) U U U U ?_) | ((with_reducible refine D.alloc ?_); refine L.al U U U ?_) | ((with_reducible refine D.store ?_); refine L.st U U U U U U U U U ?_) | ((with_reducible refine D.indexAddr ?_); refine L.ixt _ U U U U U U U (by assumption) ?_) | ((with_reducible refine D.ax ?_); refine L.bs1 U U U U U (EC.fold_of U) U U ?_) | ((with_reducible refine D.aw ?_); first | refine K.sq (AW.regL ?_) | refine AW.regD mixed (by kernel_rfl) ?_) | with_reducible refine K.tN ?_ | with_reducible refine K.bN ?_ | ((with_reducible show @LT.lt Nat _ _ _); omega))
    exact ⟨rfl, trivial, (Weak.mk [some 0, some 1, some 2, some 5] _ _ _ U U U U (by (repeat' (first | exact trivial | refine And.intro ?_ ?_ | refine ⟨_, U, _, U, ?_⟩ | exact VLe.refl _)); done) (by (repeat' (first | exact trivial | exact Or.inr ⟨_, U, rfl⟩ | refine And.intro ?_ ?_ | refine ⟨_, U, _, U, _, U, ?_⟩ | exact VLe.refl _ | exact VLe.of_eq (by simp [Sto.upd, List.take_append_getElem]))); done))⟩
  · intro _
    simp only [List.take_length]
    repeat' (first | ((with_reducible refine D.nil ?_); refine AX.nilL ?_) | ((with_reducible refine D.load ?_); refine L.ldb U U U U U U ?_) | ((with_reducible refine D.move ?_); refine L.mv U U U ?_) | ((with_reducible refine D.fieldAddr ?_); refine L.fab U U U U U ?_) | ((with_reducible refine D.call ?_); refine L.lnt U U U U ?_) | ((with_reducible refine D.aw ?_); first | refine K.sq (K.sq ?_) | refine AW.regL ?_) | with_reducible refine K.tN ?_)
    refine AW.range f.args.length (fun m => True)
      (fun m => ([(1, .ptr 0 0), (2, .ptr 1 0), (3, .ptr 2 0), (30, .s .fm f.args), (31, .i f.args.length), (32, .i m)], ⟨5, [(0, .var f.view), (1, .var [.i 0, .i 0, .slice .nil (.t .ty []), .slice .nil (.t .tm []), .slice .nil (.t .fm [])]), (2, .var [.i f.kind, .i f.ty.kind, .s .ty f.ty.args, .slice (.own 3) (.t .tm f.terms), .slice (.own 4) (.t .fm (f.args.take m))]), (3, .row), (4, .row)]⟩))
      (by omega) (fun m => rfl) (fun m => rfl) U trivial (Weak.mk [some 0, some 1, some 2, some 3, none] _ _ _ U U U U (by (repeat' (first | exact trivial | refine And.intro ?_ ?_ | refine ⟨_, U, _, U, ?_⟩ | exact VLe.refl _)); done) (by (repeat' (first | exact trivial | exact Or.inl U | exact Or.inr ⟨_, U, rfl⟩ | refine And.intro ?_ ?_ | refine ⟨_, U, _, U, _, U, ?_⟩ | exact VLe.refl _)); done)) ?_ ?_
    · intro m hm _
      have hs2 := lsum_mem Fm.full (List.getElem_mem hm)
      repeat' (first | ((with_reducible refine D.nil ?_); first | refine AX.nilL ?_ | refine AX.nilD (by kernel_rfl) ?_) | ((with_reducible refine D.load ?_); first | refine L.ldb U U U U U U ?_ | refine L.lda U U U U U ?_) | ((with_reducible refine D.fieldAddr ?_); refine L.fab U U U U U ?_) | ((with_reducible refine D.call ?_); first | refine L.apt U U U U U U (by first | exact trivial | exact ⟨rfl, trivial⟩) U U (by first | omega | (simp; omega)) ?_ | refine L.c2 (ih _ ?_ ?_) U U U U ?_) | ((with_reducible refine D.alloc ?_); refine L.al U U U ?_) | ((with_reducible refine D.store ?_); refine L.st U U U U U U U U U ?_) | ((with_reducible refine D.indexAddr ?_); refine L.ixt _ U U U U U U U (by assumption) ?_) | ((with_reducible refine D.ax ?_); refine L.bs1 U U U U U (EC.fold_of U) U U ?_) | ((with_reducible refine D.aw ?_); first | refine K.sq (AW.regL ?_) | refine AW.regD mixed (by kernel_rfl) ?_) | with_reducible refine K.tN ?_ | with_reducible refine K.bN ?_ | ((with_reducible show @LE.le Nat _ _ _); omega) | ((with_reducible show @LT.lt Nat _ _ _); omega))
      exact ⟨rfl, trivial, (Weak.mk [some 0, some 1, some 2, some 3, some 6] _ _ _ U U U U (by (repeat' (first | exact trivial | refine And.intro ?_ ?_ | refine ⟨_, U, _, U, ?_⟩ | exact VLe.refl _)); done) (by (repeat' (first | exact trivial | exact Or.inr ⟨_, U, rfl⟩ | refine And.intro ?_ ?_ | refine ⟨_, U, _, U, _, U, ?_⟩ | exact VLe.refl _ | exact VLe.of_eq (by simp [Sto.upd, List.take_append_getElem]))); done))⟩
    · intro _
      simp only [List.take_length]
      repeat' (first | ((with_reducible refine D.nil ?_); refine AX.nilL ?_) | ((with_reducible refine D.load ?_); refine L.ldb U U U U U U ?_) | ((with_reducible refine D.store ?_); refine L.st U U U U U U U U U ?_) | ((with_reducible refine D.aw ?_); first | refine K.sq (AW.regL ?_) | refine AW.ret ?_) | with_reducible refine K.tN ?_ | with_reducible refine K.r1 (by with_unfolding_all rfl) (by with_unfolding_all rfl) ?_)
      rfl
theorem eqFm_c (a b : Tm) (ha : a.full < 1099511627776) (hb : b.full < 1099511627776) : PC E 95 [.agg a.view, .agg b.view] (.agg (eqF a b).view) := by
  have h1 := copyTm_c _ a (Nat.le_refl _) ha
  have h2 := copyTm_c _ b (Nat.le_refl _) hb
  refine AC.mk Tryz.func95 rfl rfl rfl rfl rfl (Nat.le_of_ble_eq_true rfl) ?_
  repeat' (first | ((with_reducible refine D.nil ?_); first | refine AX.nilL ?_ | refine AX.nilD (by kernel_rfl) ?_) | ((with_reducible refine D.load ?_); refine L.ldb U U U U U U ?_) | ((with_reducible refine D.call ?_); first | refine L.c2 (h1) U U U U ?_ | refine L.c2 (h2) U U U U ?_) | ((with_reducible refine D.box ?_); refine L.bx U U U U ?_) | ((with_reducible refine D.alloc ?_); refine L.al U U U ?_) | ((with_reducible refine D.store ?_); refine L.st U U U U U U U U U ?_) | ((with_reducible refine D.ax ?_); first | refine L.bd U U U U U ?_ | refine L.bs2 U U U U U (EC.fold_of U) U U U (EC.fold_of U) U U ?_) | ((with_reducible refine D.aw ?_); first | refine K.sq (AW.regL ?_) | refine K.sq (AW.regD mixed (by kernel_rfl) ?_) | refine AW.ret ?_) | with_reducible refine K.tN ?_ | with_reducible refine K.r1 (by with_unfolding_all rfl) (by with_unfolding_all rfl) ?_)
  rfl
theorem twoFm_c (k : Int) (a b : Fm) (ha : a.full < 1099511627776) (hb : b.full < 1099511627776) : PC E 93 [.i k, .agg a.view, .agg b.view] (.agg (Fm.mk k (.mk 0 []) [] [a, b]).view) := by
  have h1 := copyFm_c _ a (Nat.le_refl _) ha
  have h2 := copyFm_c _ b (Nat.le_refl _) hb
  refine AC.mk Tryz.func93 rfl rfl rfl rfl rfl (Nat.le_of_ble_eq_true rfl) ?_
  repeat' (first | ((with_reducible refine D.nil ?_); first | refine AX.nilL ?_ | refine AX.nilD (by kernel_rfl) ?_) | ((with_reducible refine D.load ?_); refine L.ldb U U U U U U ?_) | ((with_reducible refine D.move ?_); refine L.mv U U U ?_) | ((with_reducible refine D.call ?_); first | refine L.c2 (h1) U U U U ?_ | refine L.c2 (h2) U U U U ?_) | ((with_reducible refine D.box ?_); refine L.bx U U U U ?_) | ((with_reducible refine D.alloc ?_); refine L.al U U U ?_) | ((with_reducible refine D.store ?_); refine L.st U U U U U U U U U ?_) | ((with_reducible refine D.ax ?_); first | refine L.bd U U U U U ?_ | refine L.bs2 U U U U U (EC.fold_of U) U U U (EC.fold_of U) U U ?_) | ((with_reducible refine D.aw ?_); first | refine K.sq (AW.regL ?_) | refine K.sq (AW.regD mixed (by kernel_rfl) ?_) | refine AW.ret ?_) | with_reducible refine K.tN ?_ | with_reducible refine K.r1 (by with_unfolding_all rfl) (by with_unfolding_all rfl) ?_)
  rfl
theorem qFm_c (k : Int) (s : Ty) (f : Fm) (hs : s.size < 1099511627776) (hf : f.full < 1099511627776) : PC E 94 [.i k, .agg s.view, .agg f.view] (.agg (Fm.mk k s [] [f]).view) := by
  have h1 := copyTy_c _ s (Nat.le_refl _) hs
  have h2 := copyFm_c _ f (Nat.le_refl _) hf
  refine AC.mk Tryz.func94 rfl rfl rfl rfl rfl (Nat.le_of_ble_eq_true rfl) ?_
  repeat' (first | ((with_reducible refine D.nil ?_); first | refine AX.nilL ?_ | refine AX.nilD (by kernel_rfl) ?_) | ((with_reducible refine D.load ?_); refine L.ldb U U U U U U ?_) | ((with_reducible refine D.move ?_); refine L.mv U U U ?_) | ((with_reducible refine D.call ?_); first | refine L.c2 (h1) U U U U ?_ | refine L.c2 (h2) U U U U ?_) | ((with_reducible refine D.box ?_); refine L.bx U U U U ?_) | ((with_reducible refine D.alloc ?_); refine L.al U U U ?_) | ((with_reducible refine D.store ?_); refine L.st U U U U U U U U U ?_) | ((with_reducible refine D.ax ?_); first | refine L.bd U U U U U ?_ | refine L.bs1 U U U U U (EC.fold_of U) U U ?_) | ((with_reducible refine D.aw ?_); first | refine K.sq (AW.regL ?_) | refine K.sq (AW.regD mixed (by kernel_rfl) ?_) | refine AW.ret ?_) | with_reducible refine K.tN ?_ | with_reducible refine K.r1 (by with_unfolding_all rfl) (by with_unfolding_all rfl) ?_)
  rfl
theorem ownFmCb (t : Tm) (b : Int) (ht : t.full < 1099511627776) : PC E 157 [.agg t.view, .i b] (.agg t.view) := by
  have h1 := ownTm_c _ t (Nat.le_refl _) ht
  refine AC.mk Tryz.func157 rfl rfl rfl rfl rfl (Nat.le_of_ble_eq_true rfl) ?_
  repeat' (first | ((with_reducible refine D.nil ?_); refine AX.nilL ?_) | ((with_reducible refine D.load ?_); refine L.ldb U U U U U U ?_) | ((with_reducible refine D.call ?_); refine L.c2 (h1) U U U U ?_) | ((with_reducible refine D.box ?_); refine L.bx U U U U ?_) | ((with_reducible refine D.alloc ?_); refine L.al U U U ?_) | ((with_reducible refine D.store ?_); refine L.st U U U U U U U U U ?_) | ((with_reducible refine D.aw ?_); first | refine K.sq (AW.regL ?_) | refine AW.ret ?_) | with_reducible refine K.tN ?_ | with_reducible refine K.r1 (by with_unfolding_all rfl) (by with_unfolding_all rfl) ?_)
  simp [tupV, V.wk, V.wks, constV, Ty.view, Tm.view]
theorem ownFmRe : ∀ (n : Nat) (f : Fm) (bl : Int), f.full ≤ n → n < 549755813888 → 0 ≤ bl → bl + n < 549755813888 → PC E 153 [.agg f.view, .i bl, .fn (.func 157) [] []] (.agg f.view) := by
  intro n
  induction n with
  | zero => intro f bl h; have := f.full_pos; omega
  | succ n ih =>
  intro f bl hsz hb hbl hbn
  have hsz' := f.full_eq
  have hlen := lsum_len Fm.full Fm.full_pos f.args
  have hlen2 := lsum_len Tm.full Tm.full_pos f.terms
  have hty := ownTy_c _ f.ty (Nat.le_refl _) (by omega)
  have hq := quantifier_c f.kind
  refine AC.mk Tryz.func153 rfl rfl rfl rfl rfl (Nat.le_of_ble_eq_true rfl) ?_
  repeat' (first | ((with_reducible refine D.nil ?_); first | refine AX.nilL ?_ | refine AX.nilD (by kernel_rfl) ?_) | ((with_reducible refine D.load ?_); refine L.ldb U U U U U U ?_) | ((with_reducible refine D.move ?_); refine L.mv U U U ?_) | ((with_reducible refine D.fieldAddr ?_); refine L.fab U U U U U ?_) | ((with_reducible refine D.call ?_); first | refine L.lnt U U U U ?_ | refine L.c2 (hty) U U U U ?_) | ((with_reducible refine D.box ?_); refine L.bx U U U U ?_) | ((with_reducible refine D.alloc ?_); refine L.al U U U ?_) | ((with_reducible refine D.store ?_); refine L.st U U U U U U U U U ?_) | ((with_reducible refine D.ax ?_); refine L.bd U U U U U ?_) | ((with_reducible refine D.aw ?_); first | refine K.sq (AW.regL ?_) | refine K.sq (AW.regD mixed (by kernel_rfl) ?_) | refine K.sq (K.sq ?_) | refine AW.regL ?_) | with_reducible refine K.tN ?_)
  refine AW.range f.terms.length (fun m => True)
    (fun m => ([(1, .i bl), (2, .fn (.func 157) [] []), (3, .ptr 0 0), (6, .ptr 1 0), (7, .ptr 2 0), (19, .s .tm f.terms), (20, .i f.terms.length), (21, .i m)], ⟨4, [(0, .var f.view), (1, .var [.i 0, .i 0, .slice .nil (.t .ty []), .slice .nil (.t .tm []), .slice .nil (.t .fm [])]), (2, .var [.i f.kind, .i f.ty.kind, .s .ty f.ty.args, .slice (.own 3) (.t .tm (f.terms.take m)), .slice .nil (.t .fm [])]), (3, .row)]⟩))
    (by omega) (fun m => rfl) (fun m => rfl) U trivial (Weak.mk [some 0, some 1, some 2, none] _ _ _ U U U U (by (repeat' (first | exact trivial | refine And.intro ?_ ?_ | refine ⟨_, U, _, U, ?_⟩ | exact VLe.refl _)); done) (by (repeat' (first | exact trivial | exact Or.inl U | refine And.intro ?_ ?_ | refine ⟨_, U, _, U, _, U, ?_⟩ | exact VLe.refl _)); done)) ?_ ?_
  · intro m hm _
    have hs2 := lsum_mem Tm.full (List.getElem_mem hm)
    have hc := ownFmCb f.terms[m] bl (by omega)
    repeat' (first | ((with_reducible refine D.nil ?_); first | refine AX.nilL ?_ | refine AX.nilD (by kernel_rfl) ?_) | ((with_reducible refine D.load ?_); first | refine L.ldb U U U U U U ?_ | refine L.lda U U U U U ?_) | ((with_reducible refine D.move ?_); refine L.mv U U U ?_) | ((with_reducible refine D.fieldAddr ?_); refine L.fab U U U U U ?_) | ((with_reducible refine D.call ?_); first | refine L.apt U U U U U U (by first | exact trivial | exact ⟨rfl, trivial⟩) U U (by first | omega | (simp; omega)) ?_ | (apply L.cv2 (hc) [] 0 rfl; rfl; rfl; rfl; rfl; rfl; rfl; rfl; (focus ((repeat' (first | exact trivial)); done)); rfl; rfl; rfl; rfl)) | ((with_reducible refine D.alloc ?_); refine L.al U U U ?_) | ((with_reducible refine D.store ?_); refine L.st U U U U U U U U U ?_) | ((with_reducible refine D.indexAddr ?_); refine L.ixt _ U U U U U U U (by assumption) ?_) | ((with_reducible refine D.ax ?_); refine L.bs1 U U U U U (EC.fold_of U) U U ?_) | ((with_reducible refine D.aw ?_); first | refine K.sq (AW.regL ?_) | refine AW.regD mixed (by kernel_rfl) ?_) | with_reducible refine K.tN ?_ | with_reducible refine K.bN ?_)
    exact ⟨rfl, trivial, (Weak.mk [some 0, some 1, some 2, some 5] _ _ _ U U U U (by (repeat' (first | exact trivial | refine And.intro ?_ ?_ | refine ⟨_, U, _, U, ?_⟩ | exact VLe.refl _)); done) (by (repeat' (first | exact trivial | exact Or.inr ⟨_, U, rfl⟩ | refine And.intro ?_ ?_ | refine ⟨_, U, _, U, _, U, ?_⟩ | exact VLe.refl _ | exact VLe.of_eq (by simp [Sto.upd, List.take_append_getElem]))); done))⟩
  · intro _
    simp only [List.take_length]
    cases hqk : quantK f.kind with
    | true =>
      rw [hqk] at hq
      repeat' (first | ((with_reducible refine D.nil ?_); refine AX.nilL ?_) | ((with_reducible refine D.load ?_); refine L.ldb U U U U U U ?_) | ((with_reducible refine D.move ?_); refine L.mv U U U ?_) | ((with_reducible refine D.fieldAddr ?_); refine L.fab U U U U U ?_) | ((with_reducible refine D.assign ?_); refine L.asg U U U ?_) | ((with_reducible refine D.bin ?_); refine L.ad U U U U (by omega) ?_) | ((with_reducible refine D.call ?_); first | refine L.lnt U U U U ?_ | refine L.c2 (hq) U U U U ?_) | ((with_reducible refine D.aw ?_); first | refine K.sq (K.sq ?_) | refine AW.regL ?_ | refine AW.condT U ?_) | with_reducible refine K.tN ?_)
      refine AW.range f.args.length (fun m => True)
        (fun m => ([(1, .i (bl + 1)), (2, .fn (.func 157) [] []), (3, .ptr 0 0), (6, .ptr 1 0), (7, .ptr 2 0), (41, .s .fm f.args), (42, .i f.args.length), (43, .i m)], ⟨5, [(0, .var f.view), (1, .var [.i 0, .i 0, .slice .nil (.t .ty []), .slice .nil (.t .tm []), .slice .nil (.t .fm [])]), (2, .var [.i f.kind, .i f.ty.kind, .s .ty f.ty.args, .slice (.own 3) (.t .tm f.terms), .slice (.own 4) (.t .fm (f.args.take m))]), (3, .row), (4, .row)]⟩))
        (by omega) (fun m => rfl) (fun m => rfl) U trivial (Weak.mk [some 0, some 1, some 2, some 3, none] _ _ _ U U U U (by (repeat' (first | exact trivial | refine And.intro ?_ ?_ | refine ⟨_, U, _, U, ?_⟩ | exact VLe.refl _)); done) (by (repeat' (first | exact trivial | exact Or.inl U | exact Or.inr ⟨_, U, rfl⟩ | refine And.intro ?_ ?_ | refine ⟨_, U, _, U, _, U, ?_⟩ | exact VLe.refl _)); done)) ?_ ?_
      · intro m hm _
        have hs2 := lsum_mem Fm.full (List.getElem_mem hm)
        have hc := ih f.args[m] (bl + 1) (by omega) (by omega) (by omega) (by omega)
        repeat' (first | ((with_reducible refine D.nil ?_); first | refine AX.nilL ?_ | refine AX.nilD (by kernel_rfl) ?_) | ((with_reducible refine D.load ?_); first | refine L.ldb U U U U U U ?_ | refine L.lda U U U U U ?_) | ((with_reducible refine D.move ?_); refine L.mv U U U ?_) | ((with_reducible refine D.fieldAddr ?_); refine L.fab U U U U U ?_) | ((with_reducible refine D.call ?_); first | refine L.apt U U U U U U (by first | exact trivial | exact ⟨rfl, trivial⟩) U U (by first | omega | (simp; omega)) ?_ | refine L.c2 (hc) U U U U ?_) | ((with_reducible refine D.alloc ?_); refine L.al U U U ?_) | ((with_reducible refine D.store ?_); refine L.st U U U U U U U U U ?_) | ((with_reducible refine D.indexAddr ?_); refine L.ixt _ U U U U U U U (by assumption) ?_) | ((with_reducible refine D.ax ?_); refine L.bs1 U U U U U (EC.fold_of U) U U ?_) | ((with_reducible refine D.aw ?_); first | refine K.sq (AW.regL ?_) | refine AW.regD mixed (by kernel_rfl) ?_) | with_reducible refine K.tN ?_ | with_reducible refine K.bN ?_)
        exact ⟨rfl, trivial, (Weak.mk [some 0, some 1, some 2, some 3, some 6] _ _ _ U U U U (by (repeat' (first | exact trivial | refine And.intro ?_ ?_ | refine ⟨_, U, _, U, ?_⟩ | exact VLe.refl _)); done) (by (repeat' (first | exact trivial | exact Or.inr ⟨_, U, rfl⟩ | refine And.intro ?_ ?_ | refine ⟨_, U, _, U, _, U, ?_⟩ | exact VLe.refl _ | exact VLe.of_eq (by simp [Sto.upd, List.take_append_getElem]))); done))⟩
      · intro _
        simp only [List.take_length]
        repeat' (first | ((with_reducible refine D.nil ?_); refine AX.nilL ?_) | ((with_reducible refine D.load ?_); refine L.ldb U U U U U U ?_) | ((with_reducible refine D.store ?_); refine L.st U U U U U U U U U ?_) | ((with_reducible refine D.aw ?_); first | refine K.sq (AW.regL ?_) | refine AW.ret ?_) | with_reducible refine K.tN ?_ | with_reducible refine K.r1 (by with_unfolding_all rfl) (by with_unfolding_all rfl) ?_)
        rfl
    | false =>
      rw [hqk] at hq
      repeat' (first | ((with_reducible refine D.nil ?_); refine AX.nilL ?_) | ((with_reducible refine D.load ?_); refine L.ldb U U U U U U ?_) | ((with_reducible refine D.move ?_); refine L.mv U U U ?_) | ((with_reducible refine D.fieldAddr ?_); refine L.fab U U U U U ?_) | ((with_reducible refine D.call ?_); first | refine L.lnt U U U U ?_ | refine L.c2 (hq) U U U U ?_) | ((with_reducible refine D.aw ?_); first | refine K.sq (K.sq ?_) | refine AW.regL ?_ | refine AW.condF U ?_ | refine AW.skip ?_) | with_reducible refine K.tN ?_)
      refine AW.range f.args.length (fun m => True)
        (fun m => ([(1, .i bl), (2, .fn (.func 157) [] []), (3, .ptr 0 0), (6, .ptr 1 0), (7, .ptr 2 0), (41, .s .fm f.args), (42, .i f.args.length), (43, .i m)], ⟨5, [(0, .var f.view), (1, .var [.i 0, .i 0, .slice .nil (.t .ty []), .slice .nil (.t .tm []), .slice .nil (.t .fm [])]), (2, .var [.i f.kind, .i f.ty.kind, .s .ty f.ty.args, .slice (.own 3) (.t .tm f.terms), .slice (.own 4) (.t .fm (f.args.take m))]), (3, .row), (4, .row)]⟩))
        (by omega) (fun m => rfl) (fun m => rfl) U trivial (Weak.mk [some 0, some 1, some 2, some 3, none] _ _ _ U U U U (by (repeat' (first | exact trivial | refine And.intro ?_ ?_ | refine ⟨_, U, _, U, ?_⟩ | exact VLe.refl _)); done) (by (repeat' (first | exact trivial | exact Or.inl U | exact Or.inr ⟨_, U, rfl⟩ | refine And.intro ?_ ?_ | refine ⟨_, U, _, U, _, U, ?_⟩ | exact VLe.refl _)); done)) ?_ ?_
      · intro m hm _
        have hs2 := lsum_mem Fm.full (List.getElem_mem hm)
        have hc := ih f.args[m] bl (by omega) (by omega) (by omega) (by omega)
        repeat' (first | ((with_reducible refine D.nil ?_); first | refine AX.nilL ?_ | refine AX.nilD (by kernel_rfl) ?_) | ((with_reducible refine D.load ?_); first | refine L.ldb U U U U U U ?_ | refine L.lda U U U U U ?_) | ((with_reducible refine D.move ?_); refine L.mv U U U ?_) | ((with_reducible refine D.fieldAddr ?_); refine L.fab U U U U U ?_) | ((with_reducible refine D.call ?_); first | refine L.apt U U U U U U (by first | exact trivial | exact ⟨rfl, trivial⟩) U U (by first | omega | (simp; omega)) ?_ | refine L.c2 (hc) U U U U ?_) | ((with_reducible refine D.alloc ?_); refine L.al U U U ?_) | ((with_reducible refine D.store ?_); refine L.st U U U U U U U U U ?_) | ((with_reducible refine D.indexAddr ?_); refine L.ixt _ U U U U U U U (by assumption) ?_) | ((with_reducible refine D.ax ?_); refine L.bs1 U U U U U (EC.fold_of U) U U ?_) | ((with_reducible refine D.aw ?_); first | refine K.sq (AW.regL ?_) | refine AW.regD mixed (by kernel_rfl) ?_) | with_reducible refine K.tN ?_ | with_reducible refine K.bN ?_)
        exact ⟨rfl, trivial, (Weak.mk [some 0, some 1, some 2, some 3, some 6] _ _ _ U U U U (by (repeat' (first | exact trivial | refine And.intro ?_ ?_ | refine ⟨_, U, _, U, ?_⟩ | exact VLe.refl _)); done) (by (repeat' (first | exact trivial | exact Or.inr ⟨_, U, rfl⟩ | refine And.intro ?_ ?_ | refine ⟨_, U, _, U, _, U, ?_⟩ | exact VLe.refl _ | exact VLe.of_eq (by simp [Sto.upd, List.take_append_getElem]))); done))⟩
      · intro _
        simp only [List.take_length]
        repeat' (first | ((with_reducible refine D.nil ?_); refine AX.nilL ?_) | ((with_reducible refine D.load ?_); refine L.ldb U U U U U U ?_) | ((with_reducible refine D.store ?_); refine L.st U U U U U U U U U ?_) | ((with_reducible refine D.aw ?_); first | refine K.sq (AW.regL ?_) | refine AW.ret ?_) | with_reducible refine K.tN ?_ | with_reducible refine K.r1 (by with_unfolding_all rfl) (by with_unfolding_all rfl) ?_)
        rfl
theorem ownFm_c (f : Fm) (hf : f.full < 274877906944) : PC E 103 [.agg f.view] (.agg f.view) := by
  have h1 := ownFmRe _ f 0 (Nat.le_refl _) (by omega) (by omega) (by omega)
  refine AC.mk Tryz.func103 rfl rfl rfl rfl rfl (Nat.le_of_ble_eq_true rfl) ?_
  repeat' (first | ((with_reducible refine D.nil ?_); refine AX.nilL ?_) | ((with_reducible refine D.load ?_); refine L.ldb U U U U U U ?_) | ((with_reducible refine D.call ?_); refine L.c2 (h1) U U U U ?_) | ((with_reducible refine D.box ?_); refine L.bx U U U U ?_) | ((with_reducible refine D.alloc ?_); refine L.al U U U ?_) | ((with_reducible refine D.store ?_); refine L.st U U U U U U U U U ?_) | ((with_reducible refine D.aw ?_); first | refine K.sq (AW.regL ?_) | refine AW.ret ?_) | with_reducible refine K.tN ?_ | with_reducible refine K.r1 (by with_unfolding_all rfl) (by with_unfolding_all rfl) ?_)
  rfl
end Go.Ab
namespace Go.Ab
open Go Go.Proofs
set_option maxRecDepth 100000
set_option maxHeartbeats 4000000
set_option linter.all false
theorem type0_c (d : Dk) (h : d.ok) : AC E 12 [.ptr 0 0, .i 0] ⟨1, [(0, .var d.cells)]⟩ (.agg (d.type 0).1.view) ⟨1, [(0, .var (d.type 0).2.cells)]⟩ := type_c 0 0 d (by omega) (by omega) (by omega) h
theorem mkFm_c : ∀ (n : Nat) (d : Dk) (g : List Ty) (k : Int), n ≤ 3 → k = n → d.ok → smalls g → g.length + n ≤ 5000 →
    AC E 27 [.ptr 0 0, .s .ty g, .i k] ⟨1, [(0, .var d.cells)]⟩ (.agg (Dk.fm n d g).1.view) ⟨1, [(0, .var (Dk.fm n d g).2.cells)]⟩ := by
  have bd : ∀ (n : Nat) (d : Dk) (g : List Ty), n ≤ 3 → smalls g → (Dk.fm n d g).1.full ≤ 10000 := fun n d g hn hg => by
    have h1 := (Dk.fm_good n d g hg).2.2
    have h2 : 2 ^ n ≤ 2 ^ 3 := Nat.pow_le_pow_right (by omega) hn
    omega
  have eqc : ∀ (d : Dk) (g : List Ty), d.ok → smalls g → g.length ≤ 5000 → ∃ (x : Tm) (d1 : Dk) (y : Tm) (d2 : Dk), d.eqf g = (eqF x y, d2) ∧ x.full ≤ 1000 ∧ y.full ≤ 1000 ∧
      AC E 11 [.ptr 0 0, .s .ty g, .agg natT.view, .i 1] ⟨1, [(0, .var d.cells)]⟩ (.agg x.view) ⟨1, [(0, .var d1.cells)]⟩ ∧
      AC E 11 [.ptr 0 0, .s .ty g, .agg natT.view, .i 1] ⟨1, [(0, .var d1.cells)]⟩ (.agg y.view) ⟨1, [(0, .var d2.cells)]⟩ := fun d g hd hg hl => by
    have d1 := Dk.tm_ok 3 d g natT hd
    have m1 := (Dk.tm_mk 3 d g natT hg small_nat (by omega) (by omega)).full hg small_nat
    have m2 := (Dk.tm_mk 3 (Dk.tm 3 d g natT).2 g natT hg small_nat (by omega) (by omega)).full hg small_nat
    exact ⟨_, _, _, _, rfl, by omega, by omega, term_c 3 (by omega) d g natT 1 (by omega) hd hg small_nat (by omega) (by omega) (by omega),
      term_c 3 (by omega) (Dk.tm 3 d g natT).2 g natT 1 (by omega) d1 hg small_nat (by omega) (by omega) (by omega)⟩
  intro n
  induction n with
  | zero =>
    intro d g k _ hk hd hg hl
    obtain ⟨x, d1, y, d2, e, fx, fy, h1, h2⟩ := eqc d g hd hg (by omega)
    have he := eqFm_c x y (by omega) (by omega)
    rw [show Dk.fm 0 d g = (eqF x y, d2) from e]
    obtain rfl : k = 0 := hk
    refine AC.mk Tryz.func27 rfl rfl rfl rfl rfl (Nat.le_of_ble_eq_true rfl) ?_
    repeat' (first | ((with_reducible refine D.nil ?_); first | refine AX.nilL ?_ | refine AX.nilD (by kernel_rfl) ?_) | ((with_reducible refine D.load ?_); refine L.ldb U U U U U U ?_) | ((with_reducible refine D.move ?_); refine L.mv U U U ?_) | ((with_reducible refine D.bin ?_); refine L.bn U U U U U ?_) | ((with_reducible refine D.call ?_); first | refine L.c2 (nat_c) U U U U ?_ | (apply L.cb2 (h1) [0] 0 rfl; rfl; rfl; rfl; rfl; rfl; rfl; (focus ((repeat' (first | exact trivial | refine And.intro ?_ ?_ | refine ⟨_, U, _, U, _, U, ?_⟩ | exact VLe.refl _)); done)); rfl; rfl; rfl; rfl) | (apply L.cb2 (h2) [0] 0 rfl; rfl; rfl; rfl; rfl; rfl; rfl; (focus ((repeat' (first | exact trivial | refine And.intro ?_ ?_ | refine ⟨_, U, _, U, _, U, ?_⟩ | exact VLe.refl _)); done)); rfl; rfl; rfl; rfl) | refine L.c2 (he) U U U U ?_) | ((with_reducible refine D.alloc ?_); refine L.al U U U ?_) | ((with_reducible refine D.store ?_); refine L.st U U U U U U U U U ?_) | ((with_reducible refine D.aw ?_); first | refine K.sq (AW.regL ?_) | refine K.sq (AW.regD mixed (by kernel_rfl) ?_) | refine K.sq (K.sq ?_) | refine AW.regL ?_ | refine AW.condF U ?_ | refine AW.skip ?_ | refine AW.ret ?_) | with_reducible refine K.tN ?_)
    (exact K.n2 [some 0] U U U U U (by (repeat' (first | exact trivial | refine And.intro ?_ ?_ | refine ⟨_, U, _, U, _, U, ?_⟩ | exact VLe.refl _)); done) U (by simp [tupV, V.wk, V.wks, constV, Ty.view, Tm.view, eqF, Fm.view]))
  | succ n ih =>
  intro d g k hn hk hd hg hl
  have h9 := next_c d 9 hd (by omega)
  have hbd := Dk.next_bd d 9 (by omega)
  have d9 := Dk.next_ok hd 9
  have hkp : k > 0 := by omega
  have efm : Dk.fm (n + 1) d g = Dk.fm (n + 1) d g := rfl
  conv at efm => rhs; rw [Dk.fm]
  generalize hr : (d.next 9).1 = r at *
  generalize (d.next 9).2 = e1 at *
  have hr9 : r = 0 ∨ r = 1 ∨ r = 2 ∨ r = 3 ∨ r = 4 ∨ r = 5 ∨ r = 6 ∨ r = 7 ∨ r = 8 := by omega
  rcases hr9 with rfl | rfl | rfl | rfl | rfl | rfl | rfl | rfl | rfl
  · simp only [show ((0 : Int) = 1) = False by simp, show ((0 : Int) = 2) = False by simp, show ((0 : Int) = 3) = False by simp, show ((0 : Int) = 4) = False by simp, show ((0 : Int) = 5) = False by simp, show ((0 : Int) = 6) = False by simp, if_false, if_true, or_self, or_true, true_or, or_false, false_or] at efm
    rw [efm]
    have a1 := ih e1 g (k - 1) (by omega) (by omega) d9 hg (by omega)
    have f1 := bd n e1 g (by omega) hg
    have k1 := Dk.fm_ok n e1 g d9
    generalize (Dk.fm n e1 g).1 = x at *
    generalize (Dk.fm n e1 g).2 = e2 at *
    have a2 := ih e2 g (k - 1) (by omega) (by omega) k1 hg (by omega)
    have f2 := bd n e2 g (by omega) hg
    generalize (Dk.fm n e2 g).1 = y at *
    generalize (Dk.fm n e2 g).2 = e3 at *
    have hw := twoFm_c 2 x y (by omega) (by omega)
    refine AC.mk Tryz.func27 rfl rfl rfl rfl rfl (Nat.le_of_ble_eq_true rfl) ?_
    repeat' (first | ((with_reducible refine D.nil ?_); refine AX.nilL ?_) | ((with_reducible refine D.move ?_); refine L.mv U U U ?_) | ((with_reducible refine D.assign ?_); refine L.asg U U U ?_) | ((with_reducible refine D.bin ?_); first | refine L.sb U U U U (by omega) ?_ | refine L.bn U U U U U ?_) | ((with_reducible refine D.call ?_); first | (apply L.cb2 (h9) [0] 0 rfl; rfl; rfl; rfl; rfl; rfl; rfl; (focus ((repeat' (first | exact trivial | refine And.intro ?_ ?_ | refine ⟨_, U, _, U, _, U, ?_⟩ | exact VLe.refl _)); done)); rfl; rfl; rfl; rfl) | (apply L.cb2 (a1) [0] 0 rfl; rfl; rfl; rfl; rfl; rfl; rfl; (focus ((repeat' (first | exact trivial | refine And.intro ?_ ?_ | refine ⟨_, U, _, U, _, U, ?_⟩ | exact VLe.refl _)); done)); rfl; rfl; rfl; rfl) | (apply L.cb2 (a2) [0] 0 rfl; rfl; rfl; rfl; rfl; rfl; rfl; (focus ((repeat' (first | exact trivial | refine And.intro ?_ ?_ | refine ⟨_, U, _, U, _, U, ?_⟩ | exact VLe.refl _)); done)); rfl; rfl; rfl; rfl) | refine L.c2 (hw) U U U U ?_) | ((with_reducible refine D.alloc ?_); refine L.al U U U ?_) | ((with_reducible refine D.store ?_); refine L.st U U U U U U U U U ?_) | ((with_reducible refine D.aw ?_); first | ((with_reducible refine D.blk ?_); refine AW.block ?_) | refine K.sq (AW.regL ?_) | refine K.sq (K.sq ?_) | refine AW.regL ?_ | refine AW.condT U ?_ | refine AW.condS U (fun h => ?_) (fun h => ?_) | refine AW.skip ?_ | refine AW.ret ?_) | with_reducible refine K.tN ?_ | with_reducible refine K.tR ?_ | with_reducible refine K.bR ?_)
    all_goals first
      | (exfalso; simp at h; omega)
      | skip
    (exact K.n2 [some 0] U U U U U (by (repeat' (first | exact trivial | refine And.intro ?_ ?_ | refine ⟨_, U, _, U, _, U, ?_⟩ | exact VLe.refl _)); done) U (by simp [tupV, V.wk, V.wks, constV, Ty.view, Tm.view, twoF, Fm.view]))
  · simp only [show ((1 : Int) = 0) = False by simp, show ((1 : Int) = 2) = False by simp, show ((1 : Int) = 3) = False by simp, show ((1 : Int) = 4) = False by simp, show ((1 : Int) = 5) = False by simp, show ((1 : Int) = 6) = False by simp, if_false, if_true, or_self, or_true, true_or, or_false, false_or] at efm
    rw [efm]
    have a1 := ih e1 g (k - 1) (by omega) (by omega) d9 hg (by omega)
    have f1 := bd n e1 g (by omega) hg
    have k1 := Dk.fm_ok n e1 g d9
    generalize (Dk.fm n e1 g).1 = x at *
    generalize (Dk.fm n e1 g).2 = e2 at *
    have a2 := ih e2 g (k - 1) (by omega) (by omega) k1 hg (by omega)
    have f2 := bd n e2 g (by omega) hg
    generalize (Dk.fm n e2 g).1 = y at *
    generalize (Dk.fm n e2 g).2 = e3 at *
    have hw := twoFm_c 3 x y (by omega) (by omega)
    refine AC.mk Tryz.func27 rfl rfl rfl rfl rfl (Nat.le_of_ble_eq_true rfl) ?_
    repeat' (first | ((with_reducible refine D.nil ?_); refine AX.nilL ?_) | ((with_reducible refine D.move ?_); refine L.mv U U U ?_) | ((with_reducible refine D.assign ?_); refine L.asg U U U ?_) | ((with_reducible refine D.bin ?_); first | refine L.sb U U U U (by omega) ?_ | refine L.bn U U U U U ?_) | ((with_reducible refine D.call ?_); first | (apply L.cb2 (h9) [0] 0 rfl; rfl; rfl; rfl; rfl; rfl; rfl; (focus ((repeat' (first | exact trivial | refine And.intro ?_ ?_ | refine ⟨_, U, _, U, _, U, ?_⟩ | exact VLe.refl _)); done)); rfl; rfl; rfl; rfl) | (apply L.cb2 (a1) [0] 0 rfl; rfl; rfl; rfl; rfl; rfl; rfl; (focus ((repeat' (first | exact trivial | refine And.intro ?_ ?_ | refine ⟨_, U, _, U, _, U, ?_⟩ | exact VLe.refl _)); done)); rfl; rfl; rfl; rfl) | (apply L.cb2 (a2) [0] 0 rfl; rfl; rfl; rfl; rfl; rfl; rfl; (focus ((repeat' (first | exact trivial | refine And.intro ?_ ?_ | refine ⟨_, U, _, U, _, U, ?_⟩ | exact VLe.refl _)); done)); rfl; rfl; rfl; rfl) | refine L.c2 (hw) U U U U ?_) | ((with_reducible refine D.alloc ?_); refine L.al U U U ?_) | ((with_reducible refine D.store ?_); refine L.st U U U U U U U U U ?_) | ((with_reducible refine D.aw ?_); first | ((with_reducible refine D.blk ?_); refine AW.block ?_) | refine K.sq (AW.regL ?_) | refine K.sq (K.sq ?_) | refine AW.regL ?_ | refine AW.condT U ?_ | refine AW.condF U ?_ | refine AW.condS U (fun h => ?_) (fun h => ?_) | refine AW.skip ?_ | refine AW.ret ?_) | with_reducible refine K.tN ?_ | with_reducible refine K.tR ?_ | with_reducible refine K.bR ?_)
    all_goals first
      | (exfalso; simp at h; omega)
      | skip
    (exact K.n2 [some 0] U U U U U (by (repeat' (first | exact trivial | refine And.intro ?_ ?_ | refine ⟨_, U, _, U, _, U, ?_⟩ | exact VLe.refl _)); done) U (by simp [tupV, V.wk, V.wks, constV, Ty.view, Tm.view, twoF, Fm.view]))
  · simp only [show ((2 : Int) = 0) = False by simp, show ((2 : Int) = 1) = False by simp, show ((2 : Int) = 3) = False by simp, show ((2 : Int) = 4) = False by simp, show ((2 : Int) = 5) = False by simp, show ((2 : Int) = 6) = False by simp, if_false, if_true, or_self, or_true, true_or, or_false, false_or] at efm
    rw [efm]
    have a1 := ih e1 g (k - 1) (by omega) (by omega) d9 hg (by omega)
    have f1 := bd n e1 g (by omega) hg
    have k1 := Dk.fm_ok n e1 g d9
    generalize (Dk.fm n e1 g).1 = x at *
    generalize (Dk.fm n e1 g).2 = e2 at *
    have a2 := ih e2 g (k - 1) (by omega) (by omega) k1 hg (by omega)
    have f2 := bd n e2 g (by omega) hg
    generalize (Dk.fm n e2 g).1 = y at *
    generalize (Dk.fm n e2 g).2 = e3 at *
    have hw := twoFm_c 3 x y (by omega) (by omega)
    refine AC.mk Tryz.func27 rfl rfl rfl rfl rfl (Nat.le_of_ble_eq_true rfl) ?_
    repeat' (first | ((with_reducible refine D.nil ?_); refine AX.nilL ?_) | ((with_reducible refine D.move ?_); refine L.mv U U U ?_) | ((with_reducible refine D.assign ?_); refine L.asg U U U ?_) | ((with_reducible refine D.bin ?_); first | refine L.sb U U U U (by omega) ?_ | refine L.bn U U U U U ?_) | ((with_reducible refine D.call ?_); first | (apply L.cb2 (h9) [0] 0 rfl; rfl; rfl; rfl; rfl; rfl; rfl; (focus ((repeat' (first | exact trivial | refine And.intro ?_ ?_ | refine ⟨_, U, _, U, _, U, ?_⟩ | exact VLe.refl _)); done)); rfl; rfl; rfl; rfl) | (apply L.cb2 (a1) [0] 0 rfl; rfl; rfl; rfl; rfl; rfl; rfl; (focus ((repeat' (first | exact trivial | refine And.intro ?_ ?_ | refine ⟨_, U, _, U, _, U, ?_⟩ | exact VLe.refl _)); done)); rfl; rfl; rfl; rfl) | (apply L.cb2 (a2) [0] 0 rfl; rfl; rfl; rfl; rfl; rfl; rfl; (focus ((repeat' (first | exact trivial | refine And.intro ?_ ?_ | refine ⟨_, U, _, U, _, U, ?_⟩ | exact VLe.refl _)); done)); rfl; rfl; rfl; rfl) | refine L.c2 (hw) U U U U ?_) | ((with_reducible refine D.alloc ?_); refine L.al U U U ?_) | ((with_reducible refine D.store ?_); refine L.st U U U U U U U U U ?_) | ((with_reducible refine D.aw ?_); first | ((with_reducible refine D.blk ?_); refine AW.block ?_) | refine K.sq (AW.regL ?_) | refine K.sq (K.sq ?_) | refine AW.regL ?_ | refine AW.condT U ?_ | refine AW.condF U ?_ | refine AW.condS U (fun h => ?_) (fun h => ?_) | refine AW.skip ?_ | refine AW.ret ?_) | with_reducible refine K.tN ?_ | with_reducible refine K.tR ?_ | with_reducible refine K.bR ?_)
    all_goals first
      | (exfalso; simp at h; omega)
      | skip
    (exact K.n2 [some 0] U U U U U (by (repeat' (first | exact trivial | refine And.intro ?_ ?_ | refine ⟨_, U, _, U, _, U, ?_⟩ | exact VLe.refl _)); done) U (by simp [tupV, V.wk, V.wks, constV, Ty.view, Tm.view, twoF, Fm.view]))
  · simp only [show ((3 : Int) = 0) = False by simp, show ((3 : Int) = 1) = False by simp, show ((3 : Int) = 2) = False by simp, show ((3 : Int) = 4) = False by simp, show ((3 : Int) = 5) = False by simp, show ((3 : Int) = 6) = False by simp, if_false, if_true, or_self, or_true, true_or, or_false, false_or] at efm
    rw [efm]
    have ts := type1_c e1 d9
    have ss := Dk.type1 e1
    have k1 := Dk.type_ok 1 e1 d9
    generalize (e1.type 1).1 = s at *
    generalize (e1.type 1).2 = e2 at *
    have gs := smalls_app hg (smalls_cons ss smalls_nil)
    have hlg := longer_c g [s] (by simp; omega)
    have a1 := ih e2 (g ++ [s]) (k - 1) (by omega) (by omega) k1 gs (by simp; omega)
    have f1 := bd n e2 (g ++ [s]) (by omega) gs
    generalize (Dk.fm n e2 (g ++ [s])).1 = x at *
    generalize (Dk.fm n e2 (g ++ [s])).2 = e3 at *
    have hw := qFm_c 4 s x (by have := ss.2; omega) (by omega)
    refine AC.mk Tryz.func27 rfl rfl rfl rfl rfl (Nat.le_of_ble_eq_true rfl) ?_
    repeat' (first | ((with_reducible refine D.nil ?_); first | refine AX.nilL ?_ | refine AX.nilD (by kernel_rfl) ?_) | ((with_reducible refine D.load ?_); refine L.ldb U U U U U U ?_) | ((with_reducible refine D.move ?_); refine L.mv U U U ?_) | ((with_reducible refine D.assign ?_); refine L.asg U U U ?_) | ((with_reducible refine D.bin ?_); first | refine L.sb U U U U (by omega) ?_ | refine L.bn U U U U U ?_) | ((with_reducible refine D.call ?_); first | (apply L.cb2 (h9) [0] 0 rfl; rfl; rfl; rfl; rfl; rfl; rfl; (focus ((repeat' (first | exact trivial | refine And.intro ?_ ?_ | refine ⟨_, U, _, U, _, U, ?_⟩ | exact VLe.refl _)); done)); rfl; rfl; rfl; rfl) | (apply L.cb2 (ts) [0] 0 rfl; rfl; rfl; rfl; rfl; rfl; rfl; (focus ((repeat' (first | exact trivial | refine And.intro ?_ ?_ | refine ⟨_, U, _, U, _, U, ?_⟩ | exact VLe.refl _)); done)); rfl; rfl; rfl; rfl) | refine L.c2 (hlg) U U U U ?_ | (apply L.cb2 (a1) [0] 0 rfl; rfl; rfl; rfl; rfl; rfl; rfl; (focus ((repeat' (first | exact trivial | refine And.intro ?_ ?_ | refine ⟨_, U, _, U, _, U, ?_⟩ | exact VLe.refl _)); done)); rfl; rfl; rfl; rfl) | refine L.c2 (hw) U U U U ?_) | ((with_reducible refine D.alloc ?_); refine L.al U U U ?_) | ((with_reducible refine D.store ?_); refine L.st U U U U U U U U U ?_) | ((with_reducible refine D.ax ?_); refine L.bs1 U U U U U (EC.fold_of U) U U ?_) | ((with_reducible refine D.aw ?_); first | ((with_reducible refine D.blk ?_); refine AW.block ?_) | refine K.sq (AW.regL ?_) | refine K.sq (AW.regD mixed (by kernel_rfl) ?_) | refine K.sq (K.sq ?_) | refine AW.regL ?_ | refine AW.condT U ?_ | refine AW.condF U ?_ | refine AW.condS U (fun h => ?_) (fun h => ?_) | refine AW.skip ?_ | refine AW.ret ?_) | with_reducible refine K.tN ?_ | with_reducible refine K.tR ?_ | with_reducible refine K.bR ?_)
    all_goals first
      | (exfalso; simp at h; omega)
      | skip
    (exact K.n2 [some 0] U U U U U (by (repeat' (first | exact trivial | refine And.intro ?_ ?_ | refine ⟨_, U, _, U, _, U, ?_⟩ | exact VLe.refl _)); done) U (by simp [tupV, V.wk, V.wks, constV, Ty.view, Tm.view, quF, Fm.view]))
  · simp only [show ((4 : Int) = 0) = False by simp, show ((4 : Int) = 1) = False by simp, show ((4 : Int) = 2) = False by simp, show ((4 : Int) = 3) = False by simp, show ((4 : Int) = 5) = False by simp, show ((4 : Int) = 6) = False by simp, if_false, if_true, or_self, or_true, true_or, or_false, false_or] at efm
    rw [efm]
    have ts := type1_c e1 d9
    have ss := Dk.type1 e1
    have k1 := Dk.type_ok 1 e1 d9
    generalize (e1.type 1).1 = s at *
    generalize (e1.type 1).2 = e2 at *
    have gs := smalls_app hg (smalls_cons ss smalls_nil)
    have hlg := longer_c g [s] (by simp; omega)
    have a1 := ih e2 (g ++ [s]) (k - 1) (by omega) (by omega) k1 gs (by simp; omega)
    have f1 := bd n e2 (g ++ [s]) (by omega) gs
    generalize (Dk.fm n e2 (g ++ [s])).1 = x at *
    generalize (Dk.fm n e2 (g ++ [s])).2 = e3 at *
    have hw := qFm_c 4 s x (by have := ss.2; omega) (by omega)
    refine AC.mk Tryz.func27 rfl rfl rfl rfl rfl (Nat.le_of_ble_eq_true rfl) ?_
    repeat' (first | ((with_reducible refine D.nil ?_); first | refine AX.nilL ?_ | refine AX.nilD (by kernel_rfl) ?_) | ((with_reducible refine D.load ?_); refine L.ldb U U U U U U ?_) | ((with_reducible refine D.move ?_); refine L.mv U U U ?_) | ((with_reducible refine D.assign ?_); refine L.asg U U U ?_) | ((with_reducible refine D.bin ?_); first | refine L.sb U U U U (by omega) ?_ | refine L.bn U U U U U ?_) | ((with_reducible refine D.call ?_); first | (apply L.cb2 (h9) [0] 0 rfl; rfl; rfl; rfl; rfl; rfl; rfl; (focus ((repeat' (first | exact trivial | refine And.intro ?_ ?_ | refine ⟨_, U, _, U, _, U, ?_⟩ | exact VLe.refl _)); done)); rfl; rfl; rfl; rfl) | (apply L.cb2 (ts) [0] 0 rfl; rfl; rfl; rfl; rfl; rfl; rfl; (focus ((repeat' (first | exact trivial | refine And.intro ?_ ?_ | refine ⟨_, U, _, U, _, U, ?_⟩ | exact VLe.refl _)); done)); rfl; rfl; rfl; rfl) | refine L.c2 (hlg) U U U U ?_ | (apply L.cb2 (a1) [0] 0 rfl; rfl; rfl; rfl; rfl; rfl; rfl; (focus ((repeat' (first | exact trivial | refine And.intro ?_ ?_ | refine ⟨_, U, _, U, _, U, ?_⟩ | exact VLe.refl _)); done)); rfl; rfl; rfl; rfl) | refine L.c2 (hw) U U U U ?_) | ((with_reducible refine D.alloc ?_); refine L.al U U U ?_) | ((with_reducible refine D.store ?_); refine L.st U U U U U U U U U ?_) | ((with_reducible refine D.ax ?_); refine L.bs1 U U U U U (EC.fold_of U) U U ?_) | ((with_reducible refine D.aw ?_); first | ((with_reducible refine D.blk ?_); refine AW.block ?_) | refine K.sq (AW.regL ?_) | refine K.sq (AW.regD mixed (by kernel_rfl) ?_) | refine K.sq (K.sq ?_) | refine AW.regL ?_ | refine AW.condT U ?_ | refine AW.condF U ?_ | refine AW.condS U (fun h => ?_) (fun h => ?_) | refine AW.skip ?_ | refine AW.ret ?_) | with_reducible refine K.tN ?_ | with_reducible refine K.tR ?_ | with_reducible refine K.bR ?_)
    all_goals first
      | (exfalso; simp at h; omega)
      | skip
    (exact K.n2 [some 0] U U U U U (by (repeat' (first | exact trivial | refine And.intro ?_ ?_ | refine ⟨_, U, _, U, _, U, ?_⟩ | exact VLe.refl _)); done) U (by simp [tupV, V.wk, V.wks, constV, Ty.view, Tm.view, quF, Fm.view]))
  · simp only [show ((5 : Int) = 0) = False by simp, show ((5 : Int) = 1) = False by simp, show ((5 : Int) = 2) = False by simp, show ((5 : Int) = 3) = False by simp, show ((5 : Int) = 4) = False by simp, show ((5 : Int) = 6) = False by simp, if_false, if_true, or_self, or_true, true_or, or_false, false_or] at efm
    rw [efm]
    have ts := type1_c e1 d9
    have ss := Dk.type1 e1
    have k1 := Dk.type_ok 1 e1 d9
    generalize (e1.type 1).1 = s at *
    generalize (e1.type 1).2 = e2 at *
    have gs := smalls_app hg (smalls_cons ss smalls_nil)
    have hlg := longer_c g [s] (by simp; omega)
    have a1 := ih e2 (g ++ [s]) (k - 1) (by omega) (by omega) k1 gs (by simp; omega)
    have f1 := bd n e2 (g ++ [s]) (by omega) gs
    generalize (Dk.fm n e2 (g ++ [s])).1 = x at *
    generalize (Dk.fm n e2 (g ++ [s])).2 = e3 at *
    have hw := qFm_c 5 s x (by have := ss.2; omega) (by omega)
    refine AC.mk Tryz.func27 rfl rfl rfl rfl rfl (Nat.le_of_ble_eq_true rfl) ?_
    repeat' (first | ((with_reducible refine D.nil ?_); first | refine AX.nilL ?_ | refine AX.nilD (by kernel_rfl) ?_) | ((with_reducible refine D.load ?_); refine L.ldb U U U U U U ?_) | ((with_reducible refine D.move ?_); refine L.mv U U U ?_) | ((with_reducible refine D.assign ?_); refine L.asg U U U ?_) | ((with_reducible refine D.bin ?_); first | refine L.sb U U U U (by omega) ?_ | refine L.bn U U U U U ?_) | ((with_reducible refine D.call ?_); first | (apply L.cb2 (h9) [0] 0 rfl; rfl; rfl; rfl; rfl; rfl; rfl; (focus ((repeat' (first | exact trivial | refine And.intro ?_ ?_ | refine ⟨_, U, _, U, _, U, ?_⟩ | exact VLe.refl _)); done)); rfl; rfl; rfl; rfl) | (apply L.cb2 (ts) [0] 0 rfl; rfl; rfl; rfl; rfl; rfl; rfl; (focus ((repeat' (first | exact trivial | refine And.intro ?_ ?_ | refine ⟨_, U, _, U, _, U, ?_⟩ | exact VLe.refl _)); done)); rfl; rfl; rfl; rfl) | refine L.c2 (hlg) U U U U ?_ | (apply L.cb2 (a1) [0] 0 rfl; rfl; rfl; rfl; rfl; rfl; rfl; (focus ((repeat' (first | exact trivial | refine And.intro ?_ ?_ | refine ⟨_, U, _, U, _, U, ?_⟩ | exact VLe.refl _)); done)); rfl; rfl; rfl; rfl) | refine L.c2 (hw) U U U U ?_) | ((with_reducible refine D.alloc ?_); refine L.al U U U ?_) | ((with_reducible refine D.store ?_); refine L.st U U U U U U U U U ?_) | ((with_reducible refine D.ax ?_); refine L.bs1 U U U U U (EC.fold_of U) U U ?_) | ((with_reducible refine D.aw ?_); first | ((with_reducible refine D.blk ?_); refine AW.block ?_) | refine K.sq (AW.regL ?_) | refine K.sq (AW.regD mixed (by kernel_rfl) ?_) | refine K.sq (K.sq ?_) | refine AW.regL ?_ | refine AW.condT U ?_ | refine AW.condF U ?_ | refine AW.condS U (fun h => ?_) (fun h => ?_) | refine AW.skip ?_ | refine AW.ret ?_) | with_reducible refine K.tN ?_ | with_reducible refine K.tR ?_ | with_reducible refine K.bR ?_)
    all_goals first
      | (exfalso; simp at h; omega)
      | skip
    (exact K.n2 [some 0] U U U U U (by (repeat' (first | exact trivial | refine And.intro ?_ ?_ | refine ⟨_, U, _, U, _, U, ?_⟩ | exact VLe.refl _)); done) U (by simp [tupV, V.wk, V.wks, constV, Ty.view, Tm.view, quF, Fm.view]))
  · simp only [show ((6 : Int) = 0) = False by simp, show ((6 : Int) = 1) = False by simp, show ((6 : Int) = 2) = False by simp, show ((6 : Int) = 3) = False by simp, show ((6 : Int) = 4) = False by simp, show ((6 : Int) = 5) = False by simp, if_false, if_true, or_self, or_true, true_or, or_false, false_or] at efm
    rw [efm]
    have ts := type0_c e1 d9
    have ss0 := Dk.type0 e1
    have ss := small_one ss0.1 ss0.2
    have k1 := Dk.type_ok 0 e1 d9
    generalize (e1.type 0).1 = s at *
    generalize (e1.type 0).2 = e2 at *
    have h2 := next_c e2 2 k1 (by omega)
    have hb2 := Dk.next_bd e2 2 (by omega)
    have k2 := Dk.next_ok k1 2
    generalize (e2.next 2).1 = u at *
    generalize (e2.next 2).2 = e3 at *
    have gs := smalls_app hg (smalls_cons ss smalls_nil)
    have hlg := longer_c g [s] (by simp; omega)
    have a1 := ih e3 (g ++ [s]) (k - 1) (by omega) (by omega) k2 gs (by simp; omega)
    have f1 := bd n e3 (g ++ [s]) (by omega) gs
    generalize (Dk.fm n e3 (g ++ [s])).1 = x at *
    generalize (Dk.fm n e3 (g ++ [s])).2 = e4 at *
    have hw := qFm_c (6 + u) s x (by have := ss.2; omega) (by omega)
    refine AC.mk Tryz.func27 rfl rfl rfl rfl rfl (Nat.le_of_ble_eq_true rfl) ?_
    repeat' (first | ((with_reducible refine D.nil ?_); first | refine AX.nilL ?_ | refine AX.nilD (by kernel_rfl) ?_) | ((with_reducible refine D.load ?_); refine L.ldb U U U U U U ?_) | ((with_reducible refine D.move ?_); refine L.mv U U U ?_) | ((with_reducible refine D.assign ?_); refine L.asg U U U ?_) | ((with_reducible refine D.bin ?_); first | refine L.ad U U U U (by omega) ?_ | refine L.sb U U U U (by omega) ?_ | refine L.bn U U U U U ?_) | ((with_reducible refine D.call ?_); first | (apply L.cb2 (h9) [0] 0 rfl; rfl; rfl; rfl; rfl; rfl; rfl; (focus ((repeat' (first | exact trivial | refine And.intro ?_ ?_ | refine ⟨_, U, _, U, _, U, ?_⟩ | exact VLe.refl _)); done)); rfl; rfl; rfl; rfl) | (apply L.cb2 (ts) [0] 0 rfl; rfl; rfl; rfl; rfl; rfl; rfl; (focus ((repeat' (first | exact trivial | refine And.intro ?_ ?_ | refine ⟨_, U, _, U, _, U, ?_⟩ | exact VLe.refl _)); done)); rfl; rfl; rfl; rfl) | (apply L.cb2 (h2) [0] 0 rfl; rfl; rfl; rfl; rfl; rfl; rfl; (focus ((repeat' (first | exact trivial | refine And.intro ?_ ?_ | refine ⟨_, U, _, U, _, U, ?_⟩ | exact VLe.refl _)); done)); rfl; rfl; rfl; rfl) | refine L.c2 (hlg) U U U U ?_ | (apply L.cb2 (a1) [0] 0 rfl; rfl; rfl; rfl; rfl; rfl; rfl; (focus ((repeat' (first | exact trivial | refine And.intro ?_ ?_ | refine ⟨_, U, _, U, _, U, ?_⟩ | exact VLe.refl _)); done)); rfl; rfl; rfl; rfl) | refine L.c2 (hw) U U U U ?_) | ((with_reducible refine D.alloc ?_); refine L.al U U U ?_) | ((with_reducible refine D.store ?_); refine L.st U U U U U U U U U ?_) | ((with_reducible refine D.ax ?_); refine L.bs1 U U U U U (EC.fold_of U) U U ?_) | ((with_reducible refine D.aw ?_); first | ((with_reducible refine D.blk ?_); refine AW.block ?_) | refine K.sq (AW.regL ?_) | refine K.sq (AW.regD mixed (by kernel_rfl) ?_) | refine K.sq (K.sq ?_) | refine AW.regL ?_ | refine AW.condT U ?_ | refine AW.condF U ?_ | refine AW.condS U (fun h => ?_) (fun h => ?_) | refine AW.skip ?_ | refine AW.ret ?_) | with_reducible refine K.tN ?_ | with_reducible refine K.tR ?_ | with_reducible refine K.bR ?_)
    all_goals first
      | (exfalso; simp at h; omega)
      | skip
    (exact K.n2 [some 0] U U U U U (by (repeat' (first | exact trivial | refine And.intro ?_ ?_ | refine ⟨_, U, _, U, _, U, ?_⟩ | exact VLe.refl _)); done) U (by simp [tupV, V.wk, V.wks, constV, Ty.view, Tm.view, quF, Fm.view]))
  · simp only [show ((7 : Int) = 0) = False by simp, show ((7 : Int) = 1) = False by simp, show ((7 : Int) = 2) = False by simp, show ((7 : Int) = 3) = False by simp, show ((7 : Int) = 4) = False by simp, show ((7 : Int) = 5) = False by simp, show ((7 : Int) = 6) = False by simp, if_false, if_true, or_self, or_true, true_or, or_false, false_or] at efm
    rw [efm]
    obtain ⟨x, d1, y, d2, e, fx, fy, h1, h2⟩ := eqc e1 g d9 hg (by omega)
    rw [e]
    have he := eqFm_c x y (by omega) (by omega)
    refine AC.mk Tryz.func27 rfl rfl rfl rfl rfl (Nat.le_of_ble_eq_true rfl) ?_
    repeat' (first | ((with_reducible refine D.nil ?_); first | refine AX.nilL ?_ | refine AX.nilD (by kernel_rfl) ?_) | ((with_reducible refine D.load ?_); refine L.ldb U U U U U U ?_) | ((with_reducible refine D.move ?_); refine L.mv U U U ?_) | ((with_reducible refine D.assign ?_); refine L.asg U U U ?_) | ((with_reducible refine D.bin ?_); refine L.bn U U U U U ?_) | ((with_reducible refine D.call ?_); first | (apply L.cb2 (h9) [0] 0 rfl; rfl; rfl; rfl; rfl; rfl; rfl; (focus ((repeat' (first | exact trivial | refine And.intro ?_ ?_ | refine ⟨_, U, _, U, _, U, ?_⟩ | exact VLe.refl _)); done)); rfl; rfl; rfl; rfl) | refine L.c2 (nat_c) U U U U ?_ | (apply L.cb2 (h1) [0] 0 rfl; rfl; rfl; rfl; rfl; rfl; rfl; (focus ((repeat' (first | exact trivial | refine And.intro ?_ ?_ | refine ⟨_, U, _, U, _, U, ?_⟩ | exact VLe.refl _)); done)); rfl; rfl; rfl; rfl) | (apply L.cb2 (h2) [0] 0 rfl; rfl; rfl; rfl; rfl; rfl; rfl; (focus ((repeat' (first | exact trivial | refine And.intro ?_ ?_ | refine ⟨_, U, _, U, _, U, ?_⟩ | exact VLe.refl _)); done)); rfl; rfl; rfl; rfl) | refine L.c2 (he) U U U U ?_) | ((with_reducible refine D.alloc ?_); refine L.al U U U ?_) | ((with_reducible refine D.store ?_); refine L.st U U U U U U U U U ?_) | ((with_reducible refine D.aw ?_); first | ((with_reducible refine D.blk ?_); refine AW.block ?_) | refine K.sq (AW.regL ?_) | refine K.sq (AW.regD mixed (by kernel_rfl) ?_) | refine K.sq (K.sq ?_) | refine AW.regL ?_ | refine AW.condF U ?_ | refine AW.condS U (fun h => ?_) (fun h => ?_) | refine AW.skip ?_ | refine AW.ret ?_) | with_reducible refine K.tN ?_ | with_reducible refine K.bN ?_)
    all_goals first
      | (exfalso; simp at h; omega)
      | skip
    (exact K.n2 [some 0] U U U U U (by (repeat' (first | exact trivial | refine And.intro ?_ ?_ | refine ⟨_, U, _, U, _, U, ?_⟩ | exact VLe.refl _)); done) U (by simp [tupV, V.wk, V.wks, constV, Ty.view, Tm.view, eqF, Fm.view]))
  · simp only [show ((8 : Int) = 0) = False by simp, show ((8 : Int) = 1) = False by simp, show ((8 : Int) = 2) = False by simp, show ((8 : Int) = 3) = False by simp, show ((8 : Int) = 4) = False by simp, show ((8 : Int) = 5) = False by simp, show ((8 : Int) = 6) = False by simp, if_false, if_true, or_self, or_true, true_or, or_false, false_or] at efm
    rw [efm]
    obtain ⟨x, d1, y, d2, e, fx, fy, h1, h2⟩ := eqc e1 g d9 hg (by omega)
    rw [e]
    have he := eqFm_c x y (by omega) (by omega)
    refine AC.mk Tryz.func27 rfl rfl rfl rfl rfl (Nat.le_of_ble_eq_true rfl) ?_
    repeat' (first | ((with_reducible refine D.nil ?_); first | refine AX.nilL ?_ | refine AX.nilD (by kernel_rfl) ?_) | ((with_reducible refine D.load ?_); refine L.ldb U U U U U U ?_) | ((with_reducible refine D.move ?_); refine L.mv U U U ?_) | ((with_reducible refine D.assign ?_); refine L.asg U U U ?_) | ((with_reducible refine D.bin ?_); refine L.bn U U U U U ?_) | ((with_reducible refine D.call ?_); first | (apply L.cb2 (h9) [0] 0 rfl; rfl; rfl; rfl; rfl; rfl; rfl; (focus ((repeat' (first | exact trivial | refine And.intro ?_ ?_ | refine ⟨_, U, _, U, _, U, ?_⟩ | exact VLe.refl _)); done)); rfl; rfl; rfl; rfl) | refine L.c2 (nat_c) U U U U ?_ | (apply L.cb2 (h1) [0] 0 rfl; rfl; rfl; rfl; rfl; rfl; rfl; (focus ((repeat' (first | exact trivial | refine And.intro ?_ ?_ | refine ⟨_, U, _, U, _, U, ?_⟩ | exact VLe.refl _)); done)); rfl; rfl; rfl; rfl) | (apply L.cb2 (h2) [0] 0 rfl; rfl; rfl; rfl; rfl; rfl; rfl; (focus ((repeat' (first | exact trivial | refine And.intro ?_ ?_ | refine ⟨_, U, _, U, _, U, ?_⟩ | exact VLe.refl _)); done)); rfl; rfl; rfl; rfl) | refine L.c2 (he) U U U U ?_) | ((with_reducible refine D.alloc ?_); refine L.al U U U ?_) | ((with_reducible refine D.store ?_); refine L.st U U U U U U U U U ?_) | ((with_reducible refine D.aw ?_); first | ((with_reducible refine D.blk ?_); refine AW.block ?_) | refine K.sq (AW.regL ?_) | refine K.sq (AW.regD mixed (by kernel_rfl) ?_) | refine K.sq (K.sq ?_) | refine AW.regL ?_ | refine AW.condF U ?_ | refine AW.condS U (fun h => ?_) (fun h => ?_) | refine AW.skip ?_ | refine AW.ret ?_) | with_reducible refine K.tN ?_ | with_reducible refine K.bN ?_)
    all_goals first
      | (exfalso; simp at h; omega)
      | skip
    (exact K.n2 [some 0] U U U U U (by (repeat' (first | exact trivial | refine And.intro ?_ ?_ | refine ⟨_, U, _, U, _, U, ?_⟩ | exact VLe.refl _)); done) U (by simp [tupV, V.wk, V.wks, constV, Ty.view, Tm.view, eqF, Fm.view]))
end Go.Ab
namespace Go.Ab
open Go Go.Proofs
set_option maxRecDepth 100000
set_option maxHeartbeats 4000000
set_option linter.all false
theorem sameAllTm_r (l : List Tm) (h : (l.map Tm.full).sum < 1099511627776) : PC E 110 [.s .tm l, .s .tm l] (.bool true) := by
  have hlen := lsum_len Tm.full Tm.full_pos l
  refine AC.mk Tryz.func110 rfl rfl rfl rfl rfl (Nat.le_of_ble_eq_true rfl) ?_
  repeat' (first | ((with_reducible refine D.nil ?_); refine AX.nilL ?_) | ((with_reducible refine D.move ?_); refine L.mv U U U ?_) | ((with_reducible refine D.assign ?_); refine L.asg U U U ?_) | ((with_reducible refine D.bin ?_); refine L.bn U U U U U ?_) | ((with_reducible refine D.call ?_); refine L.lnt U U U U ?_) | ((with_reducible refine D.aw ?_); first | refine K.sq (AW.regL ?_) | refine K.sq (K.sq ?_) | refine AW.regL ?_ | refine AW.condS U (fun h => ?_) (fun h => ?_) | refine AW.skip ?_ | refine AW.ret ?_) | with_reducible refine K.tN ?_ | with_reducible refine K.tR ?_ | with_reducible refine K.r1 (by with_unfolding_all rfl) (by with_unfolding_all rfl) ?_)
  · exfalso; simp at h
  refine AW.range l.length (fun m => True) (fun m => ([(0, .s .tm l), (1, .s .tm l), (11, .s .tm l), (12, .i l.length), (13, .i m)], ⟨0, []⟩))
    (by omega) (fun m => rfl) (fun m => rfl) U trivial (Weak.mk [] _ _ _ U U U U (by (repeat' (first | exact trivial | refine And.intro ?_ ?_ | refine ⟨_, U, _, U, ?_⟩ | exact VLe.refl _)); done) (by (repeat' (first | exact trivial)); done)) ?_ ?_
  · intro m hm _
    have hs2 := lsum_mem Tm.full (List.getElem_mem hm)
    have hc := sameTm_r l[m] (by omega)
    repeat' (first | ((with_reducible refine D.nil ?_); first | refine AX.nilL ?_ | refine AX.nilD (by kernel_rfl) ?_) | ((with_reducible refine D.load ?_); refine L.lda U U U U U ?_) | ((with_reducible refine D.move ?_); refine L.mv U U U ?_) | ((with_reducible refine D.assign ?_); refine L.asg U U U ?_) | ((with_reducible refine D.call ?_); refine L.c2 (hc) U U U U ?_) | ((with_reducible refine D.indexAddr ?_); refine L.ixt _ U U U U U U U (by assumption) ?_) | ((with_reducible refine D.not ?_); refine L.nt U U U ?_) | ((with_reducible refine D.aw ?_); first | refine K.sq (AW.regL ?_) | refine K.sq (AW.regD mixed (by kernel_rfl) ?_) | refine AW.condF U ?_ | refine AW.skip ?_) | with_reducible refine K.tN ?_ | with_reducible refine K.bN ?_)
    exact ⟨rfl, trivial, (Weak.mk [] _ _ _ U U U U (by (repeat' (first | exact trivial | refine And.intro ?_ ?_ | refine ⟨_, U, _, U, ?_⟩ | exact VLe.refl _)); done) (by (repeat' (first | exact trivial)); done))⟩
  · intro _
    repeat' (first | ((with_reducible refine D.nil ?_); refine AX.nilL ?_) | ((with_reducible refine D.assign ?_); refine L.asg U U U ?_) | ((with_reducible refine D.aw ?_); first | refine K.sq (AW.regL ?_) | refine AW.ret ?_) | with_reducible refine K.tN ?_ | with_reducible refine K.r1 (by with_unfolding_all rfl) (by with_unfolding_all rfl) ?_)
    rfl
theorem sameFm_r : ∀ (n : Nat) (f : Fm), f.full ≤ n → n < 1099511627776 → PC E 33 [.agg f.view, .agg f.view] (.bool true) := by
  intro n
  induction n with
  | zero => intro f h; have := f.full_pos; omega
  | succ n ih =>
  intro f hsz hn
  have hsz' := f.full_eq
  have hlen := lsum_len Fm.full Fm.full_pos f.args
  have h1 := sameTy_r f.ty (by omega)
  have h2 := sameAllTm_r f.terms (by omega)
  refine AC.mk Tryz.func33 rfl rfl rfl rfl rfl (Nat.le_of_ble_eq_true rfl) ?_
  repeat' (first | ((with_reducible refine D.nil ?_); refine AX.nilL ?_) | ((with_reducible refine D.load ?_); first | refine L.ldb U U U U U U ?_ | refine AX.sk U U ?_) | ((with_reducible refine D.move ?_); refine L.mv U U U ?_) | ((with_reducible refine D.fieldAddr ?_); first | refine L.fab U U U U U ?_ | refine AX.sk U U ?_ | ((fail_if_success refine AX.wt U ?_); refine AX.gs U U (fun _ => trivial) (fun h => ?_) (fun h => ?_))) | ((with_reducible refine D.assign ?_); refine L.asg U U U ?_) | ((with_reducible refine D.bin ?_); first | refine L.bn U U U U U ?_ | refine AX.sk U U ?_) | ((with_reducible refine D.call ?_); first | refine L.lnt U U U U ?_ | refine L.c2 (h1) U U U U ?_ | refine L.c2 (h2) U U U U ?_ | refine AX.sk U U ?_) | ((with_reducible refine D.box ?_); refine L.bx U U U U ?_) | ((with_reducible refine D.not ?_); first | refine L.nt U U U ?_ | refine AX.sk U U ?_) | ((with_reducible refine D.pick ?_); refine L.pk U U U U ?_) | ((with_reducible refine D.aw ?_); first | refine K.sq (AW.regL ?_) | refine K.sq (K.sq ?_) | refine AW.regL ?_ | refine AW.condT U ?_ | refine AW.condS U (fun h => ?_) (fun h => ?_) | refine AW.skip ?_ | refine AW.ret ?_) | with_reducible refine K.tN ?_ | with_reducible refine K.tR ?_ | with_reducible refine K.r1 (by with_unfolding_all rfl) (by with_unfolding_all rfl) ?_)
  all_goals first
    | (exfalso; simp at h; done)
    | skip
  refine AW.range f.args.length (fun m => True) (fun m => ([(2, .ptr 0 0), (3, .ptr 1 0), (37, .s .fm f.args), (38, .i f.args.length), (39, .i m)], ⟨2, [(0, .var f.view), (1, .var f.view)]⟩))
    (by omega) (fun m => rfl) (fun m => rfl) U trivial (Weak.mk [some 0, some 1] _ _ _ U U U U (by (repeat' (first | exact trivial | refine And.intro ?_ ?_ | refine ⟨_, U, _, U, ?_⟩ | exact VLe.refl _)); done) (by (repeat' (first | exact trivial | refine And.intro ?_ ?_ | refine ⟨_, U, _, U, _, U, ?_⟩ | exact VLe.refl _)); done)) ?_ ?_
  · intro m hm _
    have hs2 := lsum_mem Fm.full (List.getElem_mem hm)
    have hc := ih f.args[m] (by omega) (by omega)
    repeat' (first | ((with_reducible refine D.nil ?_); first | refine AX.nilL ?_ | refine AX.nilD (by kernel_rfl) ?_) | ((with_reducible refine D.load ?_); first | refine L.ldb U U U U U U ?_ | refine L.lda U U U U U ?_) | ((with_reducible refine D.move ?_); refine L.mv U U U ?_) | ((with_reducible refine D.fieldAddr ?_); refine L.fab U U U U U ?_) | ((with_reducible refine D.assign ?_); refine L.asg U U U ?_) | ((with_reducible refine D.call ?_); refine L.c2 (hc) U U U U ?_) | ((with_reducible refine D.indexAddr ?_); refine L.ixt _ U U U U U U U (by assumption) ?_) | ((with_reducible refine D.not ?_); refine L.nt U U U ?_) | ((with_reducible refine D.aw ?_); first | refine K.sq (AW.regL ?_) | refine K.sq (AW.regD mixed (by kernel_rfl) ?_) | refine AW.condF U ?_ | refine AW.skip ?_) | with_reducible refine K.tN ?_ | with_reducible refine K.bN ?_)
    exact ⟨rfl, trivial, (Weak.mk [some 0, some 1] _ _ _ U U U U (by (repeat' (first | exact trivial | refine And.intro ?_ ?_ | refine ⟨_, U, _, U, ?_⟩ | exact VLe.refl _)); done) (by (repeat' (first | exact trivial | refine And.intro ?_ ?_ | refine ⟨_, U, _, U, _, U, ?_⟩ | exact VLe.refl _)); done))⟩
  · intro _
    repeat' (first | ((with_reducible refine D.nil ?_); refine AX.nilL ?_) | ((with_reducible refine D.assign ?_); refine L.asg U U U ?_) | ((with_reducible refine D.aw ?_); first | refine K.sq (AW.regL ?_) | refine AW.ret ?_) | with_reducible refine K.tN ?_ | with_reducible refine K.r1 (by with_unfolding_all rfl) (by with_unfolding_all rfl) ?_)
    rfl
end Go.Ab
namespace Go.Ab
open Go Go.Proofs
set_option maxRecDepth 100000
set_option maxHeartbeats 4000000
set_option linter.all false
def nearG (b : Bool) (l : List (Int × Int)) : Bool := b && l.all fun p => decide (p.1 ≤ 268435456)
theorem nearFFm (b : Bool) (t : Tm) (bl : Int) (ht : t.full < 1099511627776) : AC E 152 [.agg t.view, .i bl, .ptr 0 0] ⟨1, [(0, .var [.bool b])]⟩ (.tup []) ⟨1, [(0, .var [.bool (allP Tm.near b [(t, bl)])])]⟩ := by
  have hc := near_c t ht
  refine AC.mk Tryz.func152 rfl rfl rfl rfl rfl (Nat.le_of_ble_eq_true rfl) ?_
  repeat' (first | ((with_reducible refine D.nil ?_); refine AX.nilL ?_) | ((with_reducible refine D.load ?_); first | refine L.ldb U U U U U U ?_ | refine AX.sk U U ?_ | ((fail_if_success refine AX.wt U ?_); refine AX.gs U U (fun _ => trivial) (fun h => ?_) (fun h => ?_))) | ((with_reducible refine D.move ?_); refine L.mv U U U ?_) | ((with_reducible refine D.call ?_); first | refine L.c2 (hc) U U U U ?_ | refine AX.sk U U ?_) | ((with_reducible refine D.box ?_); refine L.bx U U U U ?_) | ((with_reducible refine D.store ?_); refine L.st U U U U U U U U U ?_) | ((with_reducible refine D.pick ?_); refine L.pk U U U U ?_) | ((with_reducible refine D.aw ?_); first | refine K.sq (AW.regL ?_) | refine AW.regL ?_) | with_reducible refine K.tN ?_)
  · (exact K.n2 [some 0] U U U U U (by (repeat' (first | exact trivial | refine And.intro ?_ ?_ | refine ⟨_, U, _, U, _, U, ?_⟩ | exact VLe.of_eq (by simp [Sto.upd, allP_one, h]))); done) U (by simp [tupV, V.wk, V.wks, constV, Ty.view, Tm.view, allP_one, h]))
  · (exact K.n2 [some 0] U U U U U (by (repeat' (first | exact trivial | refine And.intro ?_ ?_ | refine ⟨_, U, _, U, _, U, ?_⟩ | exact VLe.of_eq (by simp [Sto.upd, allP_one, h]))); done) U (by simp [tupV, V.wk, V.wks, constV, Ty.view, Tm.view, allP_one, h]))
theorem countFFm (at_ c : Int) (t : Tm) (bl : Int) (ht : t.full < 549755813888) (hc0 : 0 ≤ c ∧ c < 549755813888) (ha : 0 ≤ at_ ∧ at_ < 549755813888) (hb : 0 ≤ bl ∧ bl < 549755813888) (hix : ∀ p ∈ t.vars 0, 0 ≤ p.1 ∧ p.1 < 1099511627776) :
    AC E 155 [.agg t.view, .i bl, .ptr 0 0, .ptr 1 0] ⟨2, [(0, .var [.i c]), (1, .var [.i at_])]⟩ (.tup []) ⟨2, [(0, .var [.i (c + cntF at_ [(t, bl)])]), (1, .var [.i at_])]⟩ := by
  have hc := count_c t (at_ + bl) ht hix
  have h1 := cnt_le (at_ + bl) (t.vars 0)
  have h2 := t.vars_len 0
  have h3 := t.size_le_full
  refine AC.mk Tryz.func155 rfl rfl rfl rfl rfl (Nat.le_of_ble_eq_true rfl) ?_
  repeat' (first | ((with_reducible refine D.nil ?_); first | refine AX.nilL ?_ | refine AX.nilD (by kernel_rfl) ?_) | ((with_reducible refine D.load ?_); refine L.ldb U U U U U U ?_) | ((with_reducible refine D.move ?_); refine L.mv U U U ?_) | ((with_reducible refine D.bin ?_); refine L.ad U U U U (by omega) ?_) | ((with_reducible refine D.call ?_); refine L.c2 (hc) U U U U ?_) | ((with_reducible refine D.box ?_); refine L.bx U U U U ?_) | ((with_reducible refine D.store ?_); refine L.st U U U U U U U U U ?_) | ((with_reducible refine D.aw ?_); first | refine K.sq (AW.regL ?_) | refine AW.regD mixed (by kernel_rfl) ?_) | with_reducible refine K.tN ?_)
  (exact K.n2 [some 0, some 1] U U U U U (by (repeat' (first | exact trivial | refine And.intro ?_ ?_ | refine ⟨_, U, _, U, _, U, ?_⟩ | exact VLe.refl _)); done) U (by simp [tupV, V.wk, V.wks, constV, Ty.view, Tm.view, cntF]))
theorem nearFEachF : ∀ (n : Nat) (f : Fm) (b : Bool) (bl : Int), f.full ≤ n → n < 549755813888 → 0 ≤ bl → bl + n < 549755813888 → AC E 120 [.agg f.view, .i bl, .fn (.func 152) [] [.ptr 0 0]] ⟨1, [(0, .var [.bool b])]⟩ (.tup []) ⟨1, [(0, .var [.bool (allP Tm.near b (f.tms bl))])]⟩ := by
  intro n
  induction n with
  | zero => intro f; intros; have := f.full_pos; omega
  | succ n ih =>
  intro f b bl hsz hn hbl hbn
  have hsz' := f.full_eq
  have hlen := lsum_len Fm.full Fm.full_pos f.args
  have hlen2 := lsum_len Tm.full Tm.full_pos f.terms
  have htm := f.tms_eq bl
  have hq := quantifier_c f.kind
  refine AC.mk Tryz.func120 rfl rfl rfl rfl rfl (Nat.le_of_ble_eq_true rfl) ?_
  repeat' (first | ((with_reducible refine D.nil ?_); refine AX.nilL ?_) | ((with_reducible refine D.load ?_); refine L.ldb U U U U U U ?_) | ((with_reducible refine D.move ?_); refine L.mv U U U ?_) | ((with_reducible refine D.fieldAddr ?_); refine L.fab U U U U U ?_) | ((with_reducible refine D.call ?_); refine L.lnt U U U U ?_) | ((with_reducible refine D.box ?_); refine L.bx U U U U ?_) | ((with_reducible refine D.aw ?_); first | refine K.sq (AW.regL ?_) | refine K.sq (K.sq ?_) | refine AW.regL ?_) | with_reducible refine K.tN ?_)
  refine AW.range f.terms.length (fun m => True)
    (fun m => ([(1, .i bl), (2, .fn (.func 152) [] [.ptr 0 0]), (3, .ptr 1 0), (11, .s .tm f.terms), (12, .i f.terms.length), (13, .i m)], ⟨2, [(0, .var [.bool (allP Tm.near b ((f.terms.take m).map (fun t => (t, bl))))]), (1, .var f.view)]⟩))
    (by omega) (fun m => rfl) (fun m => rfl) rfl trivial ?_ ?_ ?_
  · exact (Weak.mk [some 0, some 1] _ _ _ U U U U (by (repeat' (first | exact trivial | refine And.intro ?_ ?_ | refine ⟨_, U, _, U, ?_⟩ | exact VLe.refl _)); done) (by (repeat' (first | exact trivial | refine And.intro ?_ ?_ | refine ⟨_, U, _, U, _, U, ?_⟩ | exact VLe.refl _ | exact VLe.of_eq (by simp [Sto.upd, allP_nil]))); done))
  · intro m hm _
    have hs2 := lsum_mem Tm.full (List.getElem_mem hm)
    have hc := nearFFm (allP Tm.near b ((f.terms.take m).map (fun t => (t, bl)))) f.terms[m] bl (by omega)
    repeat' (first | ((with_reducible refine D.nil ?_); refine AX.nilL ?_) | ((with_reducible refine D.load ?_); first | refine L.ldb U U U U U U ?_ | refine L.lda U U U U U ?_) | ((with_reducible refine D.move ?_); refine L.mv U U U ?_) | ((with_reducible refine D.call ?_); (apply L.cv2 (hc) [0] 0 rfl; rfl; rfl; rfl; rfl; rfl; rfl; rfl; (focus ((repeat' (first | exact trivial | refine And.intro ?_ ?_ | refine ⟨_, U, _, U, _, U, ?_⟩ | exact VLe.refl _)); done)); rfl; rfl; rfl; rfl)) | ((with_reducible refine D.alloc ?_); refine L.al U U U ?_) | ((with_reducible refine D.store ?_); refine L.st U U U U U U U U U ?_) | ((with_reducible refine D.indexAddr ?_); refine L.ixt _ U U U U U U U (by assumption) ?_) | ((with_reducible refine D.aw ?_); first | refine K.sq (AW.regL ?_) | refine AW.regL ?_) | with_reducible refine K.tN ?_ | with_reducible refine K.bN ?_)
    refine ⟨rfl, trivial, ?_⟩
    exact (Weak.mk [some 0, some 1] _ _ _ U U U U (by (repeat' (first | exact trivial | refine And.intro ?_ ?_ | refine ⟨_, U, _, U, ?_⟩ | exact VLe.refl _)); done) (by (repeat' (first | exact trivial | refine And.intro ?_ ?_ | refine ⟨_, U, _, U, _, U, ?_⟩ | exact VLe.refl _ | exact VLe.of_eq (by simp [Sto.upd, allP_append, map_take _ _ _ hm]))); done))
  · intro _
    simp only [List.take_length]
    repeat' (first | ((with_reducible refine D.nil ?_); refine AX.nilL ?_) | ((with_reducible refine D.load ?_); refine L.ldb U U U U U U ?_) | ((with_reducible refine D.move ?_); refine L.mv U U U ?_) | ((with_reducible refine D.fieldAddr ?_); refine L.fab U U U U U ?_) | ((with_reducible refine D.assign ?_); refine L.asg U U U ?_) | ((with_reducible refine D.bin ?_); refine L.ad U U U U (by omega) ?_) | ((with_reducible refine D.call ?_); first | refine L.lnt U U U U ?_ | refine L.c2 (hq) U U U U ?_) | ((with_reducible refine D.aw ?_); first | refine K.sq (AW.regL ?_) | refine K.sq (K.sq ?_) | refine AW.regL ?_ | refine AW.condS U (fun h => ?_) (fun h => ?_) | refine AW.skip ?_) | with_reducible refine K.tN ?_)
    all_goals
      have hup : upF f.kind bl ≤ bl + 1 := by simp only [upF]; split <;> omega
      have hup0 : 0 ≤ upF f.kind bl := by simp only [upF]; split <;> omega
      refine AW.range f.args.length (fun m => True)
        (fun m => ([(1, .i (upF f.kind bl)), (2, .fn (.func 152) [] [.ptr 0 0]), (3, .ptr 1 0), (28, .s .fm f.args), (29, .i f.args.length), (30, .i m)], ⟨2, [(0, .var [.bool (allP Tm.near b (f.terms.map (fun t => (t, bl)) ++ (f.args.take m).flatMap (Fm.tms (upF f.kind bl))))]), (1, .var f.view)]⟩))
        (by omega) (fun m => rfl) (fun m => rfl) rfl trivial ?_ ?_ ?_
      · exact (Weak.mk [some 0, some 1] _ _ _ U U U U (by (repeat' (first | exact trivial | refine And.intro ?_ ?_ | refine ⟨_, U, _, U, ?_⟩ | exact VLe.refl _ | exact VLe.of_eq (by simp [Sto.upd, upF, h, allP_nil]))); done) (by (repeat' (first | exact trivial | refine And.intro ?_ ?_ | refine ⟨_, U, _, U, _, U, ?_⟩ | exact VLe.refl _ | exact VLe.of_eq (by simp [Sto.upd, upF, h, allP_nil]))); done))
      · intro m hm _
        have hs2 := lsum_mem Fm.full (List.getElem_mem hm)
        have hc := ih f.args[m] (allP Tm.near b (f.terms.map (fun t => (t, bl)) ++ (f.args.take m).flatMap (Fm.tms (upF f.kind bl)))) (upF f.kind bl) (by omega) (by omega) hup0 (by omega)
        repeat' (first | ((with_reducible refine D.nil ?_); refine AX.nilL ?_) | ((with_reducible refine D.load ?_); first | refine L.ldb U U U U U U ?_ | refine L.lda U U U U U ?_) | ((with_reducible refine D.move ?_); refine L.mv U U U ?_) | ((with_reducible refine D.call ?_); (apply L.cv2 (hc) [0] 0 rfl; rfl; rfl; rfl; rfl; rfl; rfl; rfl; (focus ((repeat' (first | exact trivial | refine And.intro ?_ ?_ | refine ⟨_, U, _, U, _, U, ?_⟩ | exact VLe.refl _)); done)); rfl; rfl; rfl; rfl)) | ((with_reducible refine D.alloc ?_); refine L.al U U U ?_) | ((with_reducible refine D.store ?_); refine L.st U U U U U U U U U ?_) | ((with_reducible refine D.indexAddr ?_); refine L.ixt _ U U U U U U U (by assumption) ?_) | ((with_reducible refine D.aw ?_); first | refine K.sq (AW.regL ?_) | refine AW.regL ?_) | with_reducible refine K.tN ?_ | with_reducible refine K.bN ?_)
        refine ⟨rfl, trivial, ?_⟩
        exact (Weak.mk [some 0, some 1] _ _ _ U U U U (by (repeat' (first | exact trivial | refine And.intro ?_ ?_ | refine ⟨_, U, _, U, ?_⟩ | exact VLe.refl _)); done) (by (repeat' (first | exact trivial | refine And.intro ?_ ?_ | refine ⟨_, U, _, U, _, U, ?_⟩ | exact VLe.refl _ | exact VLe.of_eq (by simp [Sto.upd, allP_append, flat_take _ _ _ hm]))); done))
      · intro _
        skip
        (exact K.n2 [some 0] U U U U U (by (repeat' (first | exact trivial | refine And.intro ?_ ?_ | refine ⟨_, U, _, U, _, U, ?_⟩ | exact VLe.of_eq (by simp [Sto.upd, htm]))); done) U (by simp [tupV, V.wk, V.wks, constV, Ty.view, Tm.view, htm]))
theorem countFEachF (at_ C : Int) (ha : 0 ≤ at_ ∧ at_ < 549755813888) (hC : C < 549755813888) : ∀ (n : Nat) (f : Fm) (c : Int) (bl : Int), f.full ≤ n → n < 549755813888 → 0 ≤ bl → bl + n < 549755813888 → 0 ≤ c → c + f.size ≤ C → (∀ p ∈ f.tms bl, ∀ q ∈ p.1.vars 0, 0 ≤ q.1 ∧ q.1 < 1099511627776) → AC E 120 [.agg f.view, .i bl, .fn (.func 155) [] [.ptr 0 0, .ptr 1 0]] ⟨2, [(0, .var [.i c]), (1, .var [.i at_])]⟩ (.tup []) ⟨2, [(0, .var [.i (c + cntF at_ (f.tms bl))]), (1, .var [.i at_])]⟩ := by
  intro n
  induction n with
  | zero => intro f; intros; have := f.full_pos; omega
  | succ n ih =>
  intro f c bl hsz hn hbl hbn hc0 hcC hix
  have hsz' := f.full_eq
  have hlen := lsum_len Fm.full Fm.full_pos f.args
  have hlen2 := lsum_len Tm.full Tm.full_pos f.terms
  have htm := f.tms_eq bl
  have hq := quantifier_c f.kind
  refine AC.mk Tryz.func120 rfl rfl rfl rfl rfl (Nat.le_of_ble_eq_true rfl) ?_
  repeat' (first | ((with_reducible refine D.nil ?_); refine AX.nilL ?_) | ((with_reducible refine D.load ?_); refine L.ldb U U U U U U ?_) | ((with_reducible refine D.move ?_); refine L.mv U U U ?_) | ((with_reducible refine D.fieldAddr ?_); refine L.fab U U U U U ?_) | ((with_reducible refine D.call ?_); refine L.lnt U U U U ?_) | ((with_reducible refine D.box ?_); refine L.bx U U U U ?_) | ((with_reducible refine D.aw ?_); first | refine K.sq (AW.regL ?_) | refine K.sq (K.sq ?_) | refine AW.regL ?_) | with_reducible refine K.tN ?_)
  refine AW.range f.terms.length (fun m => True)
    (fun m => ([(1, .i bl), (2, .fn (.func 155) [] [.ptr 0 0, .ptr 1 0]), (3, .ptr 2 0), (11, .s .tm f.terms), (12, .i f.terms.length), (13, .i m)], ⟨3, [(0, .var [.i (c + cntF at_ ((f.terms.take m).map (fun t => (t, bl))))]), (1, .var [.i at_]), (2, .var f.view)]⟩))
    (by omega) (fun m => rfl) (fun m => rfl) rfl trivial ?_ ?_ ?_
  · exact (Weak.mk [some 0, some 1, some 2] _ _ _ U U U U (by (repeat' (first | exact trivial | refine And.intro ?_ ?_ | refine ⟨_, U, _, U, ?_⟩ | exact VLe.refl _)); done) (by (repeat' (first | exact trivial | refine And.intro ?_ ?_ | refine ⟨_, U, _, U, _, U, ?_⟩ | exact VLe.refl _ | exact VLe.of_eq (by simp [Sto.upd, cntF]))); done))
  · intro m hm _
    have hs2 := lsum_mem Tm.full (List.getElem_mem hm)
    have hle1 := cntF_le at_ ((f.terms.take m).map (fun t => (t, bl)))
    have hle2 : (((f.terms.take m).map (fun t => (t, bl))).map fun p : Tm × Int => p.1.size).sum ≤ f.size := tms_le1 f bl m
    have hc := countFFm at_ (c + cntF at_ ((f.terms.take m).map (fun t => (t, bl)))) f.terms[m] bl (by omega) (by omega) ha (by omega) (fun p hp => hix _ (by rw [htm]; exact List.mem_append_left _ (List.mem_map.2 ⟨_, List.getElem_mem hm, rfl⟩)) p hp)
    repeat' (first | ((with_reducible refine D.nil ?_); refine AX.nilL ?_) | ((with_reducible refine D.load ?_); first | refine L.ldb U U U U U U ?_ | refine L.lda U U U U U ?_) | ((with_reducible refine D.move ?_); refine L.mv U U U ?_) | ((with_reducible refine D.call ?_); (apply L.cv2 (hc) [0, 1] 0 rfl; rfl; rfl; rfl; rfl; rfl; rfl; rfl; (focus ((repeat' (first | exact trivial | refine And.intro ?_ ?_ | refine ⟨_, U, _, U, _, U, ?_⟩ | exact VLe.refl _)); done)); rfl; rfl; rfl; rfl)) | ((with_reducible refine D.alloc ?_); refine L.al U U U ?_) | ((with_reducible refine D.store ?_); refine L.st U U U U U U U U U ?_) | ((with_reducible refine D.indexAddr ?_); refine L.ixt _ U U U U U U U (by assumption) ?_) | ((with_reducible refine D.aw ?_); first | refine K.sq (AW.regL ?_) | refine AW.regL ?_) | with_reducible refine K.tN ?_ | with_reducible refine K.bN ?_)
    refine ⟨rfl, trivial, ?_⟩
    exact (Weak.mk [some 0, some 1, some 2] _ _ _ U U U U (by (repeat' (first | exact trivial | refine And.intro ?_ ?_ | refine ⟨_, U, _, U, ?_⟩ | exact VLe.refl _)); done) (by (repeat' (first | exact trivial | refine And.intro ?_ ?_ | refine ⟨_, U, _, U, _, U, ?_⟩ | exact VLe.refl _ | exact VLe.of_eq (by simp [Sto.upd, cntF_append, Int.natCast_add, Int.add_assoc, map_take _ _ _ hm]))); done))
  · intro _
    simp only [List.take_length]
    repeat' (first | ((with_reducible refine D.nil ?_); refine AX.nilL ?_) | ((with_reducible refine D.load ?_); refine L.ldb U U U U U U ?_) | ((with_reducible refine D.move ?_); refine L.mv U U U ?_) | ((with_reducible refine D.fieldAddr ?_); refine L.fab U U U U U ?_) | ((with_reducible refine D.assign ?_); refine L.asg U U U ?_) | ((with_reducible refine D.bin ?_); refine L.ad U U U U (by omega) ?_) | ((with_reducible refine D.call ?_); first | refine L.lnt U U U U ?_ | refine L.c2 (hq) U U U U ?_) | ((with_reducible refine D.aw ?_); first | refine K.sq (AW.regL ?_) | refine K.sq (K.sq ?_) | refine AW.regL ?_ | refine AW.condS U (fun h => ?_) (fun h => ?_) | refine AW.skip ?_) | with_reducible refine K.tN ?_)
    all_goals
      have hup : upF f.kind bl ≤ bl + 1 := by simp only [upF]; split <;> omega
      have hup0 : 0 ≤ upF f.kind bl := by simp only [upF]; split <;> omega
      refine AW.range f.args.length (fun m => True)
        (fun m => ([(1, .i (upF f.kind bl)), (2, .fn (.func 155) [] [.ptr 0 0, .ptr 1 0]), (3, .ptr 2 0), (28, .s .fm f.args), (29, .i f.args.length), (30, .i m)], ⟨3, [(0, .var [.i (c + cntF at_ (f.terms.map (fun t => (t, bl)) ++ (f.args.take m).flatMap (Fm.tms (upF f.kind bl))))]), (1, .var [.i at_]), (2, .var f.view)]⟩))
        (by omega) (fun m => rfl) (fun m => rfl) rfl trivial ?_ ?_ ?_
      · exact (Weak.mk [some 0, some 1, some 2] _ _ _ U U U U (by (repeat' (first | exact trivial | refine And.intro ?_ ?_ | refine ⟨_, U, _, U, ?_⟩ | exact VLe.refl _ | exact VLe.of_eq (by simp [Sto.upd, upF, h, cntF]))); done) (by (repeat' (first | exact trivial | refine And.intro ?_ ?_ | refine ⟨_, U, _, U, _, U, ?_⟩ | exact VLe.refl _ | exact VLe.of_eq (by simp [Sto.upd, upF, h, cntF]))); done))
      · intro m hm _
        have hs2 := lsum_mem Fm.full (List.getElem_mem hm)
        have hle1 := cntF_le at_ (f.terms.map (fun t => (t, bl)) ++ (f.args.take m).flatMap (Fm.tms (upF f.kind bl)))
        have hle2 : ((f.terms.map (fun t => (t, bl)) ++ (f.args.take m).flatMap (Fm.tms (upF f.kind bl))).map fun p : Tm × Int => p.1.size).sum + (f.args[m]).size ≤ f.size := tms_le2 f bl m hm
        have hc := ih f.args[m] (c + cntF at_ (f.terms.map (fun t => (t, bl)) ++ (f.args.take m).flatMap (Fm.tms (upF f.kind bl)))) (upF f.kind bl) (by omega) (by omega) hup0 (by omega) (by omega) (by omega) (fun p hp => hix p (by rw [htm]; exact List.mem_append_right _ (List.mem_flatMap.2 ⟨_, List.getElem_mem hm, hp⟩)))
        repeat' (first | ((with_reducible refine D.nil ?_); refine AX.nilL ?_) | ((with_reducible refine D.load ?_); first | refine L.ldb U U U U U U ?_ | refine L.lda U U U U U ?_) | ((with_reducible refine D.move ?_); refine L.mv U U U ?_) | ((with_reducible refine D.call ?_); (apply L.cv2 (hc) [0, 1] 0 rfl; rfl; rfl; rfl; rfl; rfl; rfl; rfl; (focus ((repeat' (first | exact trivial | refine And.intro ?_ ?_ | refine ⟨_, U, _, U, _, U, ?_⟩ | exact VLe.refl _)); done)); rfl; rfl; rfl; rfl)) | ((with_reducible refine D.alloc ?_); refine L.al U U U ?_) | ((with_reducible refine D.store ?_); refine L.st U U U U U U U U U ?_) | ((with_reducible refine D.indexAddr ?_); refine L.ixt _ U U U U U U U (by assumption) ?_) | ((with_reducible refine D.aw ?_); first | refine K.sq (AW.regL ?_) | refine AW.regL ?_) | with_reducible refine K.tN ?_ | with_reducible refine K.bN ?_)
        refine ⟨rfl, trivial, ?_⟩
        exact (Weak.mk [some 0, some 1, some 2] _ _ _ U U U U (by (repeat' (first | exact trivial | refine And.intro ?_ ?_ | refine ⟨_, U, _, U, ?_⟩ | exact VLe.refl _)); done) (by (repeat' (first | exact trivial | refine And.intro ?_ ?_ | refine ⟨_, U, _, U, _, U, ?_⟩ | exact VLe.refl _ | exact VLe.of_eq (by simp [Sto.upd, cntF_append, Int.natCast_add, Int.add_assoc, flat_take _ _ _ hm]))); done))
      · intro _
        skip
        (exact K.n2 [some 0, some 1] U U U U U (by (repeat' (first | exact trivial | refine And.intro ?_ ?_ | refine ⟨_, U, _, U, _, U, ?_⟩ | exact VLe.refl _ | exact VLe.of_eq (by simp [Sto.upd, htm]))); done) U (by simp [tupV, V.wk, V.wks, constV, Ty.view, Tm.view, htm]))
theorem nearFm_c (f : Fm) (hf : f.full < 274877906944) : PC E 97 [.agg f.view] (.bool f.near) := by
  have hc := nearFEachF _ f true 0 (Nat.le_refl _) (by omega) (by omega) (by omega)
  refine AC.mk Tryz.func97 rfl rfl rfl rfl rfl (Nat.le_of_ble_eq_true rfl) ?_
  repeat' (first | ((with_reducible refine D.nil ?_); refine AX.nilL ?_) | ((with_reducible refine D.load ?_); refine L.ldb U U U U U U ?_) | ((with_reducible refine D.assign ?_); refine L.asg U U U ?_) | ((with_reducible refine D.call ?_); (apply L.cv2 (hc) [1] 0 rfl; rfl; rfl; rfl; rfl; rfl; rfl; rfl; (focus ((repeat' (first | exact trivial | refine And.intro ?_ ?_ | refine ⟨_, U, _, U, _, U, ?_⟩ | exact VLe.refl _)); done)); rfl; rfl; rfl; rfl)) | ((with_reducible refine D.box ?_); refine L.bx U U U U ?_) | ((with_reducible refine D.alloc ?_); refine L.al U U U ?_) | ((with_reducible refine D.store ?_); refine L.st U U U U U U U U U ?_) | ((with_reducible refine D.ax ?_); refine L.mf U U U U ?_) | ((with_reducible refine D.aw ?_); first | refine K.sq (AW.regL ?_) | refine AW.ret ?_) | with_reducible refine K.tN ?_ | with_reducible refine K.r1 (by with_unfolding_all rfl) (by with_unfolding_all rfl) ?_)
  simp [tupV, V.wk, V.wks, allP, Fm.near]
theorem countFm_c (f : Fm) (at_ : Int) (ha : 0 ≤ at_ ∧ at_ < 549755813888) (hf : f.full < 274877906944) (hix : ∀ p ∈ f.tms 0, ∀ q ∈ p.1.vars 0, 0 ≤ q.1 ∧ q.1 < 1099511627776) : PC E 99 [.agg f.view, .i at_] (.i (cntF at_ (f.tms 0))) := by
  have hle := f.size_le_full
  have hc := countFEachF at_ (f.size) ha (by omega) _ f 0 0 (Nat.le_refl _) (by omega) (by omega) (by omega) (by omega) (by omega) hix
  refine AC.mk Tryz.func99 rfl rfl rfl rfl rfl (Nat.le_of_ble_eq_true rfl) ?_
  repeat' (first | ((with_reducible refine D.nil ?_); refine AX.nilL ?_) | ((with_reducible refine D.load ?_); refine L.ldb U U U U U U ?_) | ((with_reducible refine D.assign ?_); refine L.asg U U U ?_) | ((with_reducible refine D.call ?_); (apply L.cv2 (hc) [2, 1] 0 rfl; rfl; rfl; rfl; rfl; rfl; rfl; rfl; (focus ((repeat' (first | exact trivial | refine And.intro ?_ ?_ | refine ⟨_, U, _, U, _, U, ?_⟩ | exact VLe.refl _)); done)); rfl; rfl; rfl; rfl)) | ((with_reducible refine D.box ?_); refine L.bx U U U U ?_) | ((with_reducible refine D.alloc ?_); refine L.al U U U ?_) | ((with_reducible refine D.store ?_); refine L.st U U U U U U U U U ?_) | ((with_reducible refine D.ax ?_); refine L.mf U U U U ?_) | ((with_reducible refine D.aw ?_); first | refine K.sq (AW.regL ?_) | refine AW.ret ?_) | with_reducible refine K.tN ?_ | with_reducible refine K.r1 (by with_unfolding_all rfl) (by with_unfolding_all rfl) ?_)
  simp [tupV, V.wk, V.wks]
end Go.Ab
namespace Go.Ab
open Go Go.Proofs
set_option maxRecDepth 100000
set_option maxHeartbeats 4000000
set_option linter.all false
theorem putFmCb (at_ : Int) (s : Tm) (hat : 0 ≤ at_ ∧ at_ < 274877906944) (hs : s.full < 274877906944) (hsi : ∀ p ∈ s.vars 0, 0 ≤ p.1 ∧ p.1 < 549755813888) (t : Tm) (bl : Int) (ht : t.full < 274877906944) (hb : 0 ≤ bl ∧ bl < 274877906944) (hix : ∀ p ∈ t.vars 0, 0 ≤ p.1 ∧ p.1 < 549755813888) :
    AC E 156 [.agg t.view, .i bl, .ptr 0 0, .ptr 1 0] ⟨2, [(0, .var [.i at_]), (1, .var s.view)]⟩ (.agg (t.re (putG (at_ + bl) s) 0).view) ⟨2, [(0, .var [.i at_]), (1, .var s.view)]⟩ := by
  have hc := put_c t (at_ + bl) s (by omega) hs hsi ht hix
  refine AC.mk Tryz.func156 rfl rfl rfl rfl rfl (Nat.le_of_ble_eq_true rfl) ?_
  repeat' (first | ((with_reducible refine D.nil ?_); refine AX.nilL ?_) | ((with_reducible refine D.load ?_); refine L.ldb U U U U U U ?_) | ((with_reducible refine D.move ?_); refine L.mv U U U ?_) | ((with_reducible refine D.bin ?_); refine L.ad U U U U (by omega) ?_) | ((with_reducible refine D.call ?_); refine L.c2 (hc) U U U U ?_) | ((with_reducible refine D.box ?_); refine L.bx U U U U ?_) | ((with_reducible refine D.alloc ?_); refine L.al U U U ?_) | ((with_reducible refine D.store ?_); refine L.st U U U U U U U U U ?_) | ((with_reducible refine D.aw ?_); first | refine K.sq (AW.regL ?_) | refine AW.ret ?_) | with_reducible refine K.tN ?_)
  (exact K.n2 [some 0, some 1] U U U U U (by (repeat' (first | exact trivial | refine And.intro ?_ ?_ | refine ⟨_, U, _, U, _, U, ?_⟩ | exact VLe.refl _)); done) U (by simp [tupV, V.wk, V.wks, constV, Ty.view, Tm.view, hc]))
theorem putFmRe (at_ : Int) (s : Tm) (hat : 0 ≤ at_ ∧ at_ < 274877906944) (hs : s.full < 274877906944) (hsi : ∀ p ∈ s.vars 0, 0 ≤ p.1 ∧ p.1 < 549755813888) : ∀ (n : Nat) (f : Fm) (bl : Int), f.full ≤ n → n < 274877906944 → 0 ≤ bl → bl + n < 274877906944 → (∀ p ∈ f.tms bl, ∀ q ∈ p.1.vars 0, 0 ≤ q.1 ∧ q.1 < 549755813888) →
    AC E 153 [.agg f.view, .i bl, .fn (.func 156) [] [.ptr 0 0, .ptr 1 0]] ⟨2, [(0, .var [.i at_]), (1, .var s.view)]⟩ (.agg (f.re (fun b t => t.re (putG (at_ + b) s) 0) bl).view) ⟨2, [(0, .var [.i at_]), (1, .var s.view)]⟩ := by
  intro n
  induction n with
  | zero => intro f bl h; intros; have := f.full_pos; omega
  | succ n ih =>
  intro f bl hsz hb hbl hbn hix
  have hsz' := f.full_eq
  have hlen := lsum_len Fm.full Fm.full_pos f.args
  have hlen2 := lsum_len Tm.full Tm.full_pos f.terms
  have hty := ownTy_c _ f.ty (Nat.le_refl _) (by omega)
  have hq := quantifier_c f.kind
  have hre := Fm.re_eq (fun b t => t.re (putG (at_ + b) s) 0) bl f
  have htm := f.tms_eq bl
  refine AC.mk Tryz.func153 rfl rfl rfl rfl rfl (Nat.le_of_ble_eq_true rfl) ?_
  repeat' (first | ((with_reducible refine D.nil ?_); first | refine AX.nilL ?_ | refine AX.nilD (by kernel_rfl) ?_) | ((with_reducible refine D.load ?_); refine L.ldb U U U U U U ?_) | ((with_reducible refine D.move ?_); refine L.mv U U U ?_) | ((with_reducible refine D.fieldAddr ?_); refine L.fab U U U U U ?_) | ((with_reducible refine D.call ?_); first | refine L.lnt U U U U ?_ | refine L.c2 (hty) U U U U ?_) | ((with_reducible refine D.box ?_); refine L.bx U U U U ?_) | ((with_reducible refine D.alloc ?_); refine L.al U U U ?_) | ((with_reducible refine D.store ?_); refine L.st U U U U U U U U U ?_) | ((with_reducible refine D.ax ?_); refine L.bd U U U U U ?_) | ((with_reducible refine D.aw ?_); first | refine K.sq (AW.regL ?_) | refine K.sq (AW.regD mixed (by kernel_rfl) ?_) | refine K.sq (K.sq ?_) | refine AW.regL ?_) | with_reducible refine K.tN ?_)
  refine AW.range f.terms.length (fun m => True)
    (fun m => ([(1, .i bl), (2, .fn (.func 156) [] [.ptr 0 0, .ptr 1 0]), (3, .ptr 2 0), (6, .ptr 3 0), (7, .ptr 4 0), (19, .s .tm f.terms), (20, .i f.terms.length), (21, .i m)], ⟨6, [(0, .var [.i at_]), (1, .var s.view), (2, .var f.view), (3, .var [.i 0, .i 0, .slice .nil (.t .ty []), .slice .nil (.t .tm []), .slice .nil (.t .fm [])]), (4, .var [.i f.kind, .i f.ty.kind, .s .ty f.ty.args, .slice (.own 5) (.t .tm ((f.terms.take m).map ((fun b t => t.re (putG (at_ + b) s) 0) bl))), .slice .nil (.t .fm [])]), (5, .row)]⟩))
    (by omega) (fun m => rfl) (fun m => rfl) U trivial (Weak.mk [some 0, some 1, some 2, some 3, some 4, none] _ _ _ U U U U (by (repeat' (first | exact trivial | refine And.intro ?_ ?_ | refine ⟨_, U, _, U, ?_⟩ | exact VLe.refl _)); done) (by (repeat' (first | exact trivial | exact Or.inl U | refine And.intro ?_ ?_ | refine ⟨_, U, _, U, _, U, ?_⟩ | exact VLe.refl _)); done)) ?_ ?_
  · intro m hm _
    have hs2 := lsum_mem Tm.full (List.getElem_mem hm)
    have hc := putFmCb at_ s hat hs hsi f.terms[m] bl (by omega) (by omega) (fun p hp => hix _ (by rw [htm]; exact List.mem_append_left _ (List.mem_map.2 ⟨_, List.getElem_mem hm, rfl⟩)) p hp)
    repeat' (first | ((with_reducible refine D.nil ?_); first | refine AX.nilL ?_ | refine AX.nilD (by kernel_rfl) ?_) | ((with_reducible refine D.load ?_); first | refine L.ldb U U U U U U ?_ | refine L.lda U U U U U ?_) | ((with_reducible refine D.move ?_); refine L.mv U U U ?_) | ((with_reducible refine D.fieldAddr ?_); refine L.fab U U U U U ?_) | ((with_reducible refine D.call ?_); first | refine L.apt U U U U U U (by first | exact trivial | exact ⟨rfl, trivial⟩) U U (by first | omega | (simp; omega)) ?_ | (apply L.cv2 (hc) [0, 1] 0 rfl; rfl; rfl; rfl; rfl; rfl; rfl; rfl; (focus ((repeat' (first | exact trivial | refine And.intro ?_ ?_ | refine ⟨_, U, _, U, _, U, ?_⟩ | exact VLe.refl _)); done)); rfl; rfl; rfl; rfl)) | ((with_reducible refine D.alloc ?_); refine L.al U U U ?_) | ((with_reducible refine D.store ?_); refine L.st U U U U U U U U U ?_) | ((with_reducible refine D.indexAddr ?_); refine L.ixt _ U U U U U U U (by assumption) ?_) | ((with_reducible refine D.ax ?_); refine L.bs1 U U U U U (EC.fold_of U) U U ?_) | ((with_reducible refine D.aw ?_); first | refine K.sq (AW.regL ?_) | refine AW.regD mixed (by kernel_rfl) ?_) | with_reducible refine K.tN ?_ | with_reducible refine K.bN ?_)
    exact ⟨rfl, trivial, (Weak.mk [some 0, some 1, some 2, some 3, some 4, some 7] _ _ _ U U U U (by (repeat' (first | exact trivial | refine And.intro ?_ ?_ | refine ⟨_, U, _, U, ?_⟩ | exact VLe.refl _)); done) (by (repeat' (first | exact trivial | exact Or.inr ⟨_, U, rfl⟩ | refine And.intro ?_ ?_ | refine ⟨_, U, _, U, _, U, ?_⟩ | exact VLe.refl _ | exact VLe.of_eq (by simp [Sto.upd, map_take _ _ _ hm]))); done))⟩
  · intro _
    simp only [List.take_length]
    cases hqk : quantK f.kind with
    | true =>
      rw [hqk] at hq
      have hu : upF f.kind bl = bl + 1 := by simp [upF, hqk]
      rw [hu] at hre htm
      repeat' (first | ((with_reducible refine D.nil ?_); refine AX.nilL ?_) | ((with_reducible refine D.load ?_); refine L.ldb U U U U U U ?_) | ((with_reducible refine D.move ?_); refine L.mv U U U ?_) | ((with_reducible refine D.fieldAddr ?_); refine L.fab U U U U U ?_) | ((with_reducible refine D.assign ?_); refine L.asg U U U ?_) | ((with_reducible refine D.bin ?_); refine L.ad U U U U (by omega) ?_) | ((with_reducible refine D.call ?_); first | refine L.lnt U U U U ?_ | refine L.c2 (hq) U U U U ?_) | ((with_reducible refine D.aw ?_); first | refine K.sq (K.sq ?_) | refine AW.regL ?_ | refine AW.condT U ?_) | with_reducible refine K.tN ?_)
      refine AW.range f.args.length (fun m => True)
        (fun m => ([(1, .i (bl + 1)), (2, .fn (.func 156) [] [.ptr 0 0, .ptr 1 0]), (3, .ptr 2 0), (6, .ptr 3 0), (7, .ptr 4 0), (41, .s .fm f.args), (42, .i f.args.length), (43, .i m)], ⟨7, [(0, .var [.i at_]), (1, .var s.view), (2, .var f.view), (3, .var [.i 0, .i 0, .slice .nil (.t .ty []), .slice .nil (.t .tm []), .slice .nil (.t .fm [])]), (4, .var [.i f.kind, .i f.ty.kind, .s .ty f.ty.args, .slice (.own 5) (.t .tm (f.terms.map ((fun b t => t.re (putG (at_ + b) s) 0) bl))), .slice (.own 6) (.t .fm ((f.args.take m).map (Fm.re (fun b t => t.re (putG (at_ + b) s) 0) (bl + 1))))]), (5, .row), (6, .row)]⟩))
        (by omega) (fun m => rfl) (fun m => rfl) U trivial (Weak.mk [some 0, some 1, some 2, some 3, some 4, some 5, none] _ _ _ U U U U (by (repeat' (first | exact trivial | refine And.intro ?_ ?_ | refine ⟨_, U, _, U, ?_⟩ | exact VLe.refl _)); done) (by (repeat' (first | exact trivial | exact Or.inl U | exact Or.inr ⟨_, U, rfl⟩ | refine And.intro ?_ ?_ | refine ⟨_, U, _, U, _, U, ?_⟩ | exact VLe.refl _)); done)) ?_ ?_
      · intro m hm _
        have hs2 := lsum_mem Fm.full (List.getElem_mem hm)
        have hc := ih f.args[m] (bl + 1) (by omega) (by omega) (by omega) (by omega) (fun p hp => hix p (by rw [htm]; exact List.mem_append_right _ (List.mem_flatMap.2 ⟨_, List.getElem_mem hm, hp⟩)))
        repeat' (first | ((with_reducible refine D.nil ?_); first | refine AX.nilL ?_ | refine AX.nilD (by kernel_rfl) ?_) | ((with_reducible refine D.load ?_); first | refine L.ldb U U U U U U ?_ | refine L.lda U U U U U ?_) | ((with_reducible refine D.move ?_); refine L.mv U U U ?_) | ((with_reducible refine D.fieldAddr ?_); refine L.fab U U U U U ?_) | ((with_reducible refine D.call ?_); first | refine L.apt U U U U U U (by first | exact trivial | exact ⟨rfl, trivial⟩) U U (by first | omega | (simp; omega)) ?_ | (apply L.cv2 (hc) [0, 1] 0 rfl; rfl; rfl; rfl; rfl; rfl; rfl; rfl; (focus ((repeat' (first | exact trivial | refine And.intro ?_ ?_ | refine ⟨_, U, _, U, _, U, ?_⟩ | exact VLe.refl _)); done)); rfl; rfl; rfl; rfl)) | ((with_reducible refine D.alloc ?_); refine L.al U U U ?_) | ((with_reducible refine D.store ?_); refine L.st U U U U U U U U U ?_) | ((with_reducible refine D.indexAddr ?_); refine L.ixt _ U U U U U U U (by assumption) ?_) | ((with_reducible refine D.ax ?_); refine L.bs1 U U U U U (EC.fold_of U) U U ?_) | ((with_reducible refine D.aw ?_); first | refine K.sq (AW.regL ?_) | refine AW.regD mixed (by kernel_rfl) ?_) | with_reducible refine K.tN ?_ | with_reducible refine K.bN ?_)
        exact ⟨rfl, trivial, (Weak.mk [some 0, some 1, some 2, some 3, some 4, some 5, some 8] _ _ _ U U U U (by (repeat' (first | exact trivial | refine And.intro ?_ ?_ | refine ⟨_, U, _, U, ?_⟩ | exact VLe.refl _)); done) (by (repeat' (first | exact trivial | exact Or.inr ⟨_, U, rfl⟩ | refine And.intro ?_ ?_ | refine ⟨_, U, _, U, _, U, ?_⟩ | exact VLe.refl _ | exact VLe.of_eq (by simp [Sto.upd, map_take _ _ _ hm]))); done))⟩
      · intro _
        simp only [List.take_length]
        repeat' (first | ((with_reducible refine D.nil ?_); refine AX.nilL ?_) | ((with_reducible refine D.load ?_); refine L.ldb U U U U U U ?_) | ((with_reducible refine D.store ?_); refine L.st U U U U U U U U U ?_) | ((with_reducible refine D.aw ?_); first | refine K.sq (AW.regL ?_) | refine AW.ret ?_) | with_reducible refine K.tN ?_)
        (exact K.n2 [some 0, some 1] U U U U U (by (repeat' (first | exact trivial | refine And.intro ?_ ?_ | refine ⟨_, U, _, U, _, U, ?_⟩ | exact VLe.refl _)); done) U (by simp [tupV, V.wk, V.wks, constV, Ty.view, Tm.view, hre]))
    | false =>
      rw [hqk] at hq
      have hu : upF f.kind bl = bl := by simp [upF, hqk]
      rw [hu] at hre htm
      repeat' (first | ((with_reducible refine D.nil ?_); refine AX.nilL ?_) | ((with_reducible refine D.load ?_); refine L.ldb U U U U U U ?_) | ((with_reducible refine D.move ?_); refine L.mv U U U ?_) | ((with_reducible refine D.fieldAddr ?_); refine L.fab U U U U U ?_) | ((with_reducible refine D.call ?_); first | refine L.lnt U U U U ?_ | refine L.c2 (hq) U U U U ?_) | ((with_reducible refine D.aw ?_); first | refine K.sq (K.sq ?_) | refine AW.regL ?_ | refine AW.condF U ?_ | refine AW.skip ?_) | with_reducible refine K.tN ?_)
      refine AW.range f.args.length (fun m => True)
        (fun m => ([(1, .i bl), (2, .fn (.func 156) [] [.ptr 0 0, .ptr 1 0]), (3, .ptr 2 0), (6, .ptr 3 0), (7, .ptr 4 0), (41, .s .fm f.args), (42, .i f.args.length), (43, .i m)], ⟨7, [(0, .var [.i at_]), (1, .var s.view), (2, .var f.view), (3, .var [.i 0, .i 0, .slice .nil (.t .ty []), .slice .nil (.t .tm []), .slice .nil (.t .fm [])]), (4, .var [.i f.kind, .i f.ty.kind, .s .ty f.ty.args, .slice (.own 5) (.t .tm (f.terms.map ((fun b t => t.re (putG (at_ + b) s) 0) bl))), .slice (.own 6) (.t .fm ((f.args.take m).map (Fm.re (fun b t => t.re (putG (at_ + b) s) 0) bl)))]), (5, .row), (6, .row)]⟩))
        (by omega) (fun m => rfl) (fun m => rfl) U trivial (Weak.mk [some 0, some 1, some 2, some 3, some 4, some 5, none] _ _ _ U U U U (by (repeat' (first | exact trivial | refine And.intro ?_ ?_ | refine ⟨_, U, _, U, ?_⟩ | exact VLe.refl _)); done) (by (repeat' (first | exact trivial | exact Or.inl U | exact Or.inr ⟨_, U, rfl⟩ | refine And.intro ?_ ?_ | refine ⟨_, U, _, U, _, U, ?_⟩ | exact VLe.refl _)); done)) ?_ ?_
      · intro m hm _
        have hs2 := lsum_mem Fm.full (List.getElem_mem hm)
        have hc := ih f.args[m] bl (by omega) (by omega) (by omega) (by omega) (fun p hp => hix p (by rw [htm]; exact List.mem_append_right _ (List.mem_flatMap.2 ⟨_, List.getElem_mem hm, hp⟩)))
        repeat' (first | ((with_reducible refine D.nil ?_); first | refine AX.nilL ?_ | refine AX.nilD (by kernel_rfl) ?_) | ((with_reducible refine D.load ?_); first | refine L.ldb U U U U U U ?_ | refine L.lda U U U U U ?_) | ((with_reducible refine D.move ?_); refine L.mv U U U ?_) | ((with_reducible refine D.fieldAddr ?_); refine L.fab U U U U U ?_) | ((with_reducible refine D.call ?_); first | refine L.apt U U U U U U (by first | exact trivial | exact ⟨rfl, trivial⟩) U U (by first | omega | (simp; omega)) ?_ | (apply L.cv2 (hc) [0, 1] 0 rfl; rfl; rfl; rfl; rfl; rfl; rfl; rfl; (focus ((repeat' (first | exact trivial | refine And.intro ?_ ?_ | refine ⟨_, U, _, U, _, U, ?_⟩ | exact VLe.refl _)); done)); rfl; rfl; rfl; rfl)) | ((with_reducible refine D.alloc ?_); refine L.al U U U ?_) | ((with_reducible refine D.store ?_); refine L.st U U U U U U U U U ?_) | ((with_reducible refine D.indexAddr ?_); refine L.ixt _ U U U U U U U (by assumption) ?_) | ((with_reducible refine D.ax ?_); refine L.bs1 U U U U U (EC.fold_of U) U U ?_) | ((with_reducible refine D.aw ?_); first | refine K.sq (AW.regL ?_) | refine AW.regD mixed (by kernel_rfl) ?_) | with_reducible refine K.tN ?_ | with_reducible refine K.bN ?_)
        exact ⟨rfl, trivial, (Weak.mk [some 0, some 1, some 2, some 3, some 4, some 5, some 8] _ _ _ U U U U (by (repeat' (first | exact trivial | refine And.intro ?_ ?_ | refine ⟨_, U, _, U, ?_⟩ | exact VLe.refl _)); done) (by (repeat' (first | exact trivial | exact Or.inr ⟨_, U, rfl⟩ | refine And.intro ?_ ?_ | refine ⟨_, U, _, U, _, U, ?_⟩ | exact VLe.refl _ | exact VLe.of_eq (by simp [Sto.upd, map_take _ _ _ hm]))); done))⟩
      · intro _
        simp only [List.take_length]
        repeat' (first | ((with_reducible refine D.nil ?_); refine AX.nilL ?_) | ((with_reducible refine D.load ?_); refine L.ldb U U U U U U ?_) | ((with_reducible refine D.store ?_); refine L.st U U U U U U U U U ?_) | ((with_reducible refine D.aw ?_); first | refine K.sq (AW.regL ?_) | refine AW.ret ?_) | with_reducible refine K.tN ?_)
        (exact K.n2 [some 0, some 1] U U U U U (by (repeat' (first | exact trivial | refine And.intro ?_ ?_ | refine ⟨_, U, _, U, _, U, ?_⟩ | exact VLe.refl _)); done) U (by simp [tupV, V.wk, V.wks, constV, Ty.view, Tm.view, hre]))
theorem putFm_c (f : Fm) (at_ : Int) (s : Tm) (hat : 0 ≤ at_ ∧ at_ < 274877906944) (hs : s.full < 274877906944) (hsi : ∀ p ∈ s.vars 0, 0 ≤ p.1 ∧ p.1 < 549755813888) (hf : f.full < 137438953472) (hix : ∀ p ∈ f.tms 0, ∀ q ∈ p.1.vars 0, 0 ≤ q.1 ∧ q.1 < 549755813888) : PC E 100 [.agg f.view, .i at_, .agg s.view] (.agg (f.put at_ s).view) := by
  have hc := putFmRe at_ s hat hs hsi _ f 0 (Nat.le_refl _) (by omega) (by omega) (by omega) hix
  refine AC.mk Tryz.func100 rfl rfl rfl rfl rfl (Nat.le_of_ble_eq_true rfl) ?_
  repeat' (first | ((with_reducible refine D.nil ?_); refine AX.nilL ?_) | ((with_reducible refine D.load ?_); refine L.ldb U U U U U U ?_) | ((with_reducible refine D.call ?_); (apply L.cv2 (hc) [1, 2] 0 rfl; rfl; rfl; rfl; rfl; rfl; rfl; rfl; (focus ((repeat' (first | exact trivial | refine And.intro ?_ ?_ | refine ⟨_, U, _, U, _, U, ?_⟩ | exact VLe.refl _)); done)); rfl; rfl; rfl; rfl)) | ((with_reducible refine D.box ?_); refine L.bx U U U U ?_) | ((with_reducible refine D.alloc ?_); refine L.al U U U ?_) | ((with_reducible refine D.store ?_); refine L.st U U U U U U U U U ?_) | ((with_reducible refine D.ax ?_); refine L.mf U U U U ?_) | ((with_reducible refine D.aw ?_); first | refine K.sq (AW.regL ?_) | refine AW.ret ?_) | with_reducible refine K.tN ?_ | with_reducible refine K.r1 (by with_unfolding_all rfl) (by with_unfolding_all rfl) ?_)
  rfl
theorem fsize_c (f : Fm) (hf : f.full < 1099511627776) : PC E 39 [.agg f.view] (.tup [.i f.num, .i f.err]) := by
  have h1 := checkFm_c f hf
  refine AC.mk Tryz.func39 rfl rfl rfl rfl rfl (Nat.le_of_ble_eq_true rfl) ?_
  repeat' (first | ((with_reducible refine D.nil ?_); refine AX.nilL ?_) | ((with_reducible refine D.load ?_); refine L.ldb U U U U U U ?_) | ((with_reducible refine D.assign ?_); refine L.asg U U U ?_) | ((with_reducible refine D.call ?_); refine L.c2 (h1) U U U U ?_) | ((with_reducible refine D.extract ?_); refine L.ex U U U U ?_) | ((with_reducible refine D.box ?_); refine L.bx U U U U ?_) | ((with_reducible refine D.aw ?_); first | refine K.sq (AW.regL ?_) | refine AW.ret ?_) | with_reducible refine K.tN ?_ | with_reducible refine K.r1 (by with_unfolding_all rfl) (by with_unfolding_all rfl) ?_)
  rfl
theorem fwithin_c (n : Int) : PC E 96 [.i n] (.bool (decide (0 ≤ n ∧ n ≤ 4096))) := by
  refine AC.mk Tryz.func96 rfl rfl rfl rfl rfl (Nat.le_of_ble_eq_true rfl) ?_
  repeat' (first | ((with_reducible refine D.nil ?_); refine AX.nilL ?_) | ((with_reducible refine D.move ?_); first | refine L.mv U U U ?_ | refine AX.sk U U ?_ | ((fail_if_success refine AX.wt U ?_); refine AX.gs U U (fun _ => trivial) (fun h => ?_) (fun h => ?_))) | ((with_reducible refine D.assign ?_); refine L.asg U U U ?_) | ((with_reducible refine D.bin ?_); first | refine L.bn U U U U U ?_ | refine AX.sk U U ?_) | ((with_reducible refine D.pick ?_); refine L.pk U U U U ?_) | ((with_reducible refine D.aw ?_); first | refine K.sq (AW.regL ?_) | refine AW.ret ?_) | with_reducible refine K.tN ?_ | with_reducible refine K.r1 (by with_unfolding_all rfl) (by with_unfolding_all rfl) ?_)
  all_goals (simp_all [tupV, V.wk, V.wks, constV]; try omega)
theorem fput_c (f : Fm) (at_ : Int) (s : Tm) (hf : f.full < 137438953472) (hs : s.full < 274877906944) : PC E 30 [.agg f.view, .i at_, .agg s.view] (.tup [.agg (if putFErr f at_ s = 0 then f.put at_ s else noFm).view, .i (putFErr f at_ s)]) := by
  have h1 := fsize_c f (by omega)
  have h2 := size_c s (by omega)
  have h3 := fwithin_c at_
  have h4 := nearFm_c f (by omega)
  have h5 := near_c s (by omega)
  have h6 : f.err = 0 → f.near = true → 0 ≤ at_ ∧ at_ ≤ 4096 → _ := fun h hn ha => countFm_c f at_ (by omega) (by omega) fun p hp q hq => by have := nearF_lt h hn p hp q hq; omega
  have h7 : f.err = 0 → f.near = true → s.err = 0 → s.near = true → 0 ≤ at_ ∧ at_ ≤ 4096 → _ := fun h hn h' hn' ha => putFm_c f at_ s (by omega) hs (near_lt h' hn') hf (nearF_lt h hn)
  have hn1 := fnum_le f
  have hn2 := num_le s
  have hle := f.size_le_full
  have hcl := cntF_le at_ (f.tms 0)
  have hvl := tms_size f 0
  have hm := mul_bd (cntF at_ (f.tms 0)) (s.num - 1) (by omega) (by omega)
  have hm' : -9223372036854775808 ≤ (cntF at_ (f.tms 0) : Int) * (s.num - 1) ∧ (cntF at_ (f.tms 0) : Int) * (s.num - 1) ≤ 9223372036854775807 := by omega
  refine AC.mk Tryz.func30 rfl rfl rfl rfl rfl (Nat.le_of_ble_eq_true rfl) ?_
  repeat' (first | ((with_reducible refine D.nil ?_); refine AX.nilL ?_) | ((with_reducible refine D.load ?_); first | refine L.ldb U U U U U U ?_ | refine AX.sk U U ?_ | ((fail_if_success refine AX.wt U ?_); refine AX.gs U U (fun _ => trivial) (fun h => ?_) (fun h => ?_))) | ((with_reducible refine D.move ?_); refine L.mv U U U ?_) | ((with_reducible refine D.assign ?_); refine L.asg U U U ?_) | ((with_reducible refine D.bin ?_); first | refine L.ad U U U U (by omega) ?_ | refine L.sb U U U U (by omega) ?_ | refine L.ml U U U U (by first | omega | assumption) ?_ | refine L.bn U U U U U ?_) | ((with_reducible refine D.call ?_); first | refine L.c2 (h1) U U U U ?_ | refine L.c2 (h2) U U U U ?_ | refine L.c2 (h3) U U U U ?_ | refine L.c2 (h4) U U U U ?_ | refine L.c2 (h5) U U U U ?_ | refine L.c2 (h6 (by simp_all) (by simp_all) (by simp_all)) U U U U ?_ | refine L.c2 (h7 (by simp_all) (by simp_all) (by simp_all) (by simp_all) (by simp_all)) U U U U ?_ | refine AX.sk U U ?_) | ((with_reducible refine D.extract ?_); refine L.ex U U U U ?_) | ((with_reducible refine D.box ?_); refine L.bx U U U U ?_) | ((with_reducible refine D.alloc ?_); refine L.al U U U ?_) | ((with_reducible refine D.store ?_); refine L.st U U U U U U U U U ?_) | ((with_reducible refine D.not ?_); first | refine L.nt U U U ?_ | refine AX.sk U U ?_) | ((with_reducible refine D.pick ?_); refine L.pk U U U U ?_) | ((with_reducible refine D.ax ?_); refine L.bd U U U U U ?_) | ((with_reducible refine D.aw ?_); first | refine K.sq (AW.regL ?_) | refine K.sq (K.sq ?_) | refine AW.regL ?_ | refine AW.condT U ?_ | refine AW.condS U (fun h => ?_) (fun h => ?_) | refine AW.skip ?_ | refine AW.ret ?_) | with_reducible refine K.tN ?_ | with_reducible refine K.tR ?_ | with_reducible refine K.r1 (by with_unfolding_all rfl) (by with_unfolding_all rfl) ?_)
  all_goals first
    | (simp_all [tupV, V.wk, V.wks, constV, Ty.view, Fm.view, putFErr, noFm, Fm.num, Tm.num]; done)
    | skip
  rename_i h0
  have h' : ¬ (0 ≤ at_ ∧ at_ ≤ 4096) := by intro hc; simp [hc] at h
  have h0' : f.err = 0 := by simpa using h0
  have e : putFErr f at_ s = 1 := by simp only [putFErr, h0', ne_eq, not_true_eq_false, if_false, h', not_false_eq_true, if_true]
  simp [tupV, V.wk, V.wks, constV, Ty.view, Fm.view, e, noFm]
end Go.Ab
