/- A part of the proofs of this seat's statements: S20, S21, S22, S23, S24, S25, S26, S27, S31, S34, S43, S46, S54, S55, S56, S62. It has no conditions of its own. -/
import Derived.Test.YthjlnifaijcfdaaGreatDoorS1
import Derived.Test.YthjlnifaijcfdaaGreatDoorD1
import Derived.Test.YthjlnifaijcfdaaGreatDoorA2
import Derived.Laws.Entries
namespace Go.Ab
open Go Go.Proofs
set_option maxRecDepth 100000
set_option maxHeartbeats 4000000
set_option linter.all false
theorem numOf_full (d : Dk) : (numOf (d.next 3).1).full ≤ 6 := by
  obtain ⟨m, hm, e⟩ := numOf_lt d
  rw [e, numT_full]; omega
theorem smalls_sum {g : List Ty} (h : smalls g) : (g.map Ty.size).sum ≤ 3 * g.length := by
  induction g with
  | nil => simp
  | cons t l ih =>
    have h1 := (h t (by simp)).2
    have h2 := ih fun x hx => h x (by simp [hx])
    simp only [List.map_cons, List.sum_cons, List.length_cons]; omega
theorem findF_none' {g : List Ty} {t : Ty} (h : ∀ j, j < g.length → isFn g t j = false) : findF g t = none := by
  simp only [findF, List.find?_eq_none, List.mem_range]
  intro j hj; simp [h j hj]
theorem findF_at {g : List Ty} {t : Ty} {m : Nat} (hm : m < g.length) (h : ∀ j, j < m → isFn g t j = false) (h1 : isFn g t m = true) : findF g t = some m := by
  simp only [findF, List.find?_range_eq_some, List.mem_range]
  exact ⟨h1, hm, fun j hj => by simp [h j hj]⟩
theorem mid_c (n : Nat) (H : HT n) (hn : n ≤ 7) (depth : Int) (hdep : depth = (n : Int) - 1) (d : Dk) (hd : d.ok) (g : List Ty) (t : Ty) (hg : smalls g) (ht : t.small) (h0 : n = 0 → t.size = 1) (hl : g.length + 3 * (n + 1) ≤ 10000) :
    AW E Tryz.f21.ntmps 1 (partAt [1, 1, 1] (bodyOf Tryz.f21)) [(0, .ptr 0 0), (1, .s .ty g), (3, .i depth), (6, .ptr 1 0), (8, .ptr 2 0)]
      ⟨3, [(0, .var d.cells), (1, .var t.view), (2, .var [.i 0, .i 0, .i 0, .slice .nil (.t .ty []), .slice .nil (.t .tm [])])]⟩
      (retQ E 1 Tryz.f21.results.toList (.agg (d.mid (Dk.tm n) (decide (2 ≤ n)) g t).1.view) ⟨1, [(0, .var (d.mid (Dk.tm n) (decide (2 ≤ n)) g t).2.cells)]⟩) := by
  have hok : ∀ d g t, d.ok → (Dk.tm n d g t).2.ok := fun d g t h => Dk.tm_ok n d g t h
  by_cases hp : 2 ≤ n
  case neg =>
    have hp' : ¬ depth > 0 := by omega
    have e : d.mid (Dk.tm n) (decide (2 ≤ n)) g t = d.fin (Dk.tm n) (decide (2 ≤ n)) g t := by simp [Dk.mid, hp]
    show AW _ _ _ (Code.seq _ _) _ _ _
    repeat' (first | ((with_reducible refine D.nil ?_); refine AX.nilL ?_) | ((with_reducible refine D.move ?_); refine L.mv U U U ?_) | ((with_reducible refine D.bin ?_); refine L.bn U U U U U ?_) | ((with_reducible refine D.aw ?_); (fail_if_success with_reducible refine D.stopR (id := 29) ?_); (fail_if_success with_reducible refine D.stopS (id := 29) ?_); first | refine K.sq (AW.regL ?_) | refine K.sq (K.sq ?_) | refine AW.regL ?_ | refine AW.condS U (fun h => ?_) (fun h => ?_) | refine AW.skip ?_) | with_reducible refine K.tN ?_)
    · exact absurd (by simpa using h) hp'
    · rw [e]; exact AW.weak (Weak.mk [some 0, some 1, some 2] _ _ _ U U U U (by (repeat' (first | exact trivial | refine And.intro ?_ ?_ | refine ⟨_, U, _, U, ?_⟩ | exact VLe.refl _)); done) (by (repeat' (first | exact trivial | refine And.intro ?_ ?_ | refine ⟨_, U, _, U, _, U, ?_⟩ | exact VLe.refl _)); done)) (fin_c n H hn depth hdep d hd g t hg ht h0 hl)
  have hp' : depth > 0 := by omega
  have hx8 := next_c d 8 hd (by omega)
  have e := Dk.mid_pos (rec := Dk.tm n) (d := d) (g := g) (t := t) (pos := decide (2 ≤ n)) (by simpa using hp)
  have hD := Dk.next_ok hd 8
  have tp : AC E 44 [.ptr 0 0, .i 0] ⟨1, [(0, .var (d.next 8).2.cells)]⟩ (.agg ((d.next 8).2.type 0).1.view) ⟨1, [(0, .var ((d.next 8).2.type 0).2.cells)]⟩ := type_c 0 0 (d.next 8).2 (by omega) (by omega) (by omega) hD
  have hS := Dk.type0 (d.next 8).2
  have hD1 := Dk.type_ok 0 _ hD
  generalize (d.next 8).1 = kk at *
  generalize (d.next 8).2 = W at *
  generalize (W.type 0).1 = S at *
  generalize (W.type 0).2 = D1 at *
  have hSs := small_one hS.1 hS.2
  have hF : ∀ d g t, smalls g → t.small → (Dk.tm n d g t).1.full ≤ 50000 := fun d g t hg ht => tm_full hn d hg ht (by omega) (by omega)
  have hH : ∀ d g t, d.ok → smalls g → t.small → g.length + 3 * n ≤ 10000 → AC E 21 [.ptr 0 0, .s .ty g, .agg t.view, .i (depth - 1)] ⟨1, [(0, .var d.cells)]⟩ (.agg (Dk.tm n d g t).1.view) ⟨1, [(0, .var (Dk.tm n d g t).2.cells)]⟩ :=
    fun d g t h1 h2 h3 h4 => H d g t (depth - 1) (by omega) h1 h2 h3 (by omega) (by omega) h4
  have hts := ht.2
  have ht1 : t.size < 1000000 := by omega
  have gS := smalls_app hg (smalls_cons hSs smalls_nil)
  have g2 := smalls_app hg (smalls_cons small_nat (smalls_cons ht smalls_nil))
  have g3 := smalls_app hg (smalls_cons small_nat (smalls_cons small_list (smalls_cons ht smalls_nil)))
  show AW _ _ _ (Code.seq _ _) _ _ _
  by_cases k0 : kk = 0
  · subst k0
    simp only [if_true] at e
    have a := hH D1 (g ++ [S]) t hD1 gS ht (by simp; omega)
    have b := hH _ g S (hok _ (g ++ [S]) t hD1) hg hSs (by omega)
    have fa := hF D1 (g ++ [S]) t gS ht
    have fb := hF (Dk.tm n D1 (g ++ [S]) t).2 g S hg hSs
    have lo := longer_c g [S] (by simp; omega)
    have c1 := t_c 2 S [(Dk.tm n D1 (g ++ [S]) t).1] (by simp; omega) (by omega)
    have c2 := n_c 3 [lmT S (Dk.tm n D1 (g ++ [S]) t).1, (Dk.tm n (Dk.tm n D1 (g ++ [S]) t).2 g S).1] (by simp [lmT, Tm.full, Tm.fulls]; omega)
    repeat' (first | ((with_reducible refine D.nil ?_); first | refine AX.nilL ?_ | refine AX.nilD (by kernel_rfl) ?_) | ((with_reducible refine D.load ?_); refine L.ldb U U U U U U ?_) | ((with_reducible refine D.move ?_); refine L.mv U U U ?_) | ((with_reducible refine D.assign ?_); refine L.asg U U U ?_) | ((with_reducible refine D.bin ?_); first | refine L.sb U U U U (by omega) ?_ | refine L.bn U U U U U ?_) | ((with_reducible refine D.call ?_); first | (apply L.cb2 (hx8) [0] 0 rfl; rfl; rfl; rfl; rfl; rfl; rfl; (focus ((repeat' (first | exact trivial | refine And.intro ?_ ?_ | refine ⟨_, U, _, U, _, U, ?_⟩ | exact VLe.refl _)); done)); rfl; rfl; rfl; rfl) | (apply L.cb2 (tp) [0] 0 rfl; rfl; rfl; rfl; rfl; rfl; rfl; (focus ((repeat' (first | exact trivial | refine And.intro ?_ ?_ | refine ⟨_, U, _, U, _, U, ?_⟩ | exact VLe.refl _)); done)); rfl; rfl; rfl; rfl) | (apply L.cb2 (a) [0] 0 rfl; rfl; rfl; rfl; rfl; rfl; rfl; (focus ((repeat' (first | exact trivial | refine And.intro ?_ ?_ | refine ⟨_, U, _, U, _, U, ?_⟩ | exact VLe.refl _)); done)); rfl; rfl; rfl; rfl) | (apply L.cb2 (b) [0] 0 rfl; rfl; rfl; rfl; rfl; rfl; rfl; (focus ((repeat' (first | exact trivial | refine And.intro ?_ ?_ | refine ⟨_, U, _, U, _, U, ?_⟩ | exact VLe.refl _)); done)); rfl; rfl; rfl; rfl) | refine L.c2 (lo) U U U U ?_ | refine L.c2 (c1) U U U U ?_ | refine L.c2 (c2) U U U U ?_) | ((with_reducible refine D.alloc ?_); refine L.al U U U ?_) | ((with_reducible refine D.store ?_); refine L.st U U U U U U U U U ?_) | ((with_reducible refine D.ax ?_); first | refine L.bs1 U U U U U (EC.fold_of U) U U ?_ | refine L.bs2 U U U U U (EC.fold_of U) U U U (EC.fold_of U) U U ?_) | ((with_reducible refine D.aw ?_); (fail_if_success with_reducible refine D.stopR (id := 29) ?_); (fail_if_success with_reducible refine D.stopS (id := 29) ?_); first | ((with_reducible refine D.blk ?_); refine AW.block ?_) | refine K.sq (AW.regL ?_) | refine K.sq (AW.regD mixed (by kernel_rfl) ?_) | refine K.sq (K.sq ?_) | refine AW.regL ?_ | refine AW.condT U ?_ | refine AW.condS U (fun h => ?_) (fun h => ?_) | refine AW.skip ?_ | refine AW.ret ?_) | with_reducible refine K.tN ?_ | with_reducible refine K.tR ?_ | with_reducible refine K.bR ?_)
    · (exact K.n2 [some 0] U U U U U (by (repeat' (first | exact trivial | refine And.intro ?_ ?_ | refine ⟨_, U, _, U, _, U, ?_⟩ | exact VLe.of_eq (by simp [Sto.upd, e, Dk.m0, apT]))); done) U (by simp [tupV, V.wk, V.wks, constV, Ty.view, Tm.view, e, Dk.m0, apT]))
    · exact absurd hp' (by simpa using h)
  rw [if_neg k0] at e
  by_cases k1 : kk = 1
  · subst k1
    rw [if_pos rfl] at e
    have a := hH D1 g t hD1 hg ht (by omega)
    have b := hH _ g S (hok _ g t hD1) hg hSs (by omega)
    have fa := hF D1 g t hg ht
    have fb := hF (Dk.tm n D1 g t).2 g S hg hSs
    have c1 := n_c 10 [(Dk.tm n D1 g t).1, (Dk.tm n (Dk.tm n D1 g t).2 g S).1] (by simp; omega)
    have c2 := n_c 11 [nT 10 [(Dk.tm n D1 g t).1, (Dk.tm n (Dk.tm n D1 g t).2 g S).1]] (by simp [nT, Tm.full, Tm.fulls, Ty.size, Ty.sizes]; omega)
    repeat' (first | ((with_reducible refine D.nil ?_); first | refine AX.nilL ?_ | refine AX.nilD (by kernel_rfl) ?_) | ((with_reducible refine D.load ?_); refine L.ldb U U U U U U ?_) | ((with_reducible refine D.move ?_); refine L.mv U U U ?_) | ((with_reducible refine D.assign ?_); refine L.asg U U U ?_) | ((with_reducible refine D.bin ?_); first | refine L.sb U U U U (by omega) ?_ | refine L.bn U U U U U ?_) | ((with_reducible refine D.call ?_); first | (apply L.cb2 (hx8) [0] 0 rfl; rfl; rfl; rfl; rfl; rfl; rfl; (focus ((repeat' (first | exact trivial | refine And.intro ?_ ?_ | refine ⟨_, U, _, U, _, U, ?_⟩ | exact VLe.refl _)); done)); rfl; rfl; rfl; rfl) | (apply L.cb2 (tp) [0] 0 rfl; rfl; rfl; rfl; rfl; rfl; rfl; (focus ((repeat' (first | exact trivial | refine And.intro ?_ ?_ | refine ⟨_, U, _, U, _, U, ?_⟩ | exact VLe.refl _)); done)); rfl; rfl; rfl; rfl) | (apply L.cb2 (a) [0] 0 rfl; rfl; rfl; rfl; rfl; rfl; rfl; (focus ((repeat' (first | exact trivial | refine And.intro ?_ ?_ | refine ⟨_, U, _, U, _, U, ?_⟩ | exact VLe.refl _)); done)); rfl; rfl; rfl; rfl) | (apply L.cb2 (b) [0] 0 rfl; rfl; rfl; rfl; rfl; rfl; rfl; (focus ((repeat' (first | exact trivial | refine And.intro ?_ ?_ | refine ⟨_, U, _, U, _, U, ?_⟩ | exact VLe.refl _)); done)); rfl; rfl; rfl; rfl) | refine L.c2 (c1) U U U U ?_ | refine L.c2 (c2) U U U U ?_) | ((with_reducible refine D.alloc ?_); refine L.al U U U ?_) | ((with_reducible refine D.store ?_); refine L.st U U U U U U U U U ?_) | ((with_reducible refine D.ax ?_); first | refine L.bs1 U U U U U (EC.fold_of U) U U ?_ | refine L.bs2 U U U U U (EC.fold_of U) U U U (EC.fold_of U) U U ?_) | ((with_reducible refine D.aw ?_); (fail_if_success with_reducible refine D.stopR (id := 29) ?_); (fail_if_success with_reducible refine D.stopS (id := 29) ?_); first | ((with_reducible refine D.blk ?_); refine AW.block ?_) | refine K.sq (AW.regL ?_) | refine K.sq (AW.regD mixed (by kernel_rfl) ?_) | refine K.sq (K.sq ?_) | refine AW.regL ?_ | refine AW.condT U ?_ | refine AW.condF U ?_ | refine AW.condS U (fun h => ?_) (fun h => ?_) | refine AW.skip ?_ | refine AW.ret ?_) | with_reducible refine K.tN ?_ | with_reducible refine K.tR ?_ | with_reducible refine K.bR ?_)
    · (exact K.n2 [some 0] U U U U U (by (repeat' (first | exact trivial | refine And.intro ?_ ?_ | refine ⟨_, U, _, U, _, U, ?_⟩ | exact VLe.of_eq (by simp [Sto.upd, e, Dk.m1, nT]))); done) U (by simp [tupV, V.wk, V.wks, constV, Ty.view, Tm.view, e, Dk.m1, nT]))
    · exact absurd hp' (by simpa using h)
  rw [if_neg k1] at e
  by_cases k2 : kk = 2
  · subst k2
    rw [if_pos rfl] at e
    have a := hH W (g ++ [natT, t]) t hD g2 ht (by simp; omega)
    have b := hH _ g t (hok _ (g ++ [natT, t]) t hD) hg ht (by omega)
    have hdb := hok _ g t (hok _ (g ++ [natT, t]) t hD)
    have fa := hF W (g ++ [natT, t]) t g2 ht
    have fb := hF (Dk.tm n W (g ++ [natT, t]) t).2 g t hg ht
    have lo := longer_c g [natT, t] (by simp; omega)
    have nx := next_c _ 3 hdb (by omega)
    have nu := num_c ((Dk.tm n (Dk.tm n W (g ++ [natT, t]) t).2 g t).2.next 3).1
    have fn := numOf_full (Dk.tm n (Dk.tm n W (g ++ [natT, t]) t).2 g t).2
    have en : natT.size = 1 := rfl
    have c1 := t_c 2 t [(Dk.tm n W (g ++ [natT, t]) t).1] (by simp; omega) (by omega)
    have c2 := t_c 2 natT [lmT t (Dk.tm n W (g ++ [natT, t]) t).1] (by simp [lmT, Tm.full, Tm.fulls]; omega) (by omega)
    have c3 := t_c 6 t [(Dk.tm n (Dk.tm n W (g ++ [natT, t]) t).2 g t).1, lmT natT (lmT t (Dk.tm n W (g ++ [natT, t]) t).1), numOf ((Dk.tm n (Dk.tm n W (g ++ [natT, t]) t).2 g t).2.next 3).1] (by simp [lmT, Tm.full, Tm.fulls]; omega) (by omega)
    repeat' (first | ((with_reducible refine D.nil ?_); first | refine AX.nilL ?_ | refine AX.nilD (by kernel_rfl) ?_) | ((with_reducible refine D.load ?_); refine L.ldb U U U U U U ?_) | ((with_reducible refine D.move ?_); refine L.mv U U U ?_) | ((with_reducible refine D.assign ?_); refine L.asg U U U ?_) | ((with_reducible refine D.bin ?_); first | refine L.sb U U U U (by omega) ?_ | refine L.bn U U U U U ?_) | ((with_reducible refine D.call ?_); first | refine L.c2 (nat_c) U U U U ?_ | (apply L.cb2 (hx8) [0] 0 rfl; rfl; rfl; rfl; rfl; rfl; rfl; (focus ((repeat' (first | exact trivial | refine And.intro ?_ ?_ | refine ⟨_, U, _, U, _, U, ?_⟩ | exact VLe.refl _)); done)); rfl; rfl; rfl; rfl) | (apply L.cb2 (a) [0] 0 rfl; rfl; rfl; rfl; rfl; rfl; rfl; (focus ((repeat' (first | exact trivial | refine And.intro ?_ ?_ | refine ⟨_, U, _, U, _, U, ?_⟩ | exact VLe.refl _)); done)); rfl; rfl; rfl; rfl) | (apply L.cb2 (b) [0] 0 rfl; rfl; rfl; rfl; rfl; rfl; rfl; (focus ((repeat' (first | exact trivial | refine And.intro ?_ ?_ | refine ⟨_, U, _, U, _, U, ?_⟩ | exact VLe.refl _)); done)); rfl; rfl; rfl; rfl) | refine L.c2 (lo) U U U U ?_ | (apply L.cb2 (nx) [0] 0 rfl; rfl; rfl; rfl; rfl; rfl; rfl; (focus ((repeat' (first | exact trivial | refine And.intro ?_ ?_ | refine ⟨_, U, _, U, _, U, ?_⟩ | exact VLe.refl _)); done)); rfl; rfl; rfl; rfl) | refine L.c2 (nu) U U U U ?_ | refine L.c2 (c1) U U U U ?_ | refine L.c2 (c2) U U U U ?_ | refine L.c2 (c3) U U U U ?_) | ((with_reducible refine D.alloc ?_); refine L.al U U U ?_) | ((with_reducible refine D.store ?_); refine L.st U U U U U U U U U ?_) | ((with_reducible refine D.ax ?_); first | refine L.bs1 U U U U U (EC.fold_of U) U U ?_ | refine L.bs2 U U U U U (EC.fold_of U) U U U (EC.fold_of U) U U ?_ | refine L.bs3 U U U U U (EC.fold_of U) U U U (EC.fold_of U) U U U (EC.fold_of U) U U ?_) | ((with_reducible refine D.aw ?_); (fail_if_success with_reducible refine D.stopR (id := 29) ?_); (fail_if_success with_reducible refine D.stopS (id := 29) ?_); first | ((with_reducible refine D.blk ?_); refine AW.block ?_) | refine K.sq (AW.regL ?_) | refine K.sq (AW.regD mixed (by kernel_rfl) ?_) | refine K.sq (K.sq ?_) | refine AW.regL ?_ | refine AW.condT U ?_ | refine AW.condF U ?_ | refine AW.condS U (fun h => ?_) (fun h => ?_) | refine AW.skip ?_ | refine AW.ret ?_) | with_reducible refine K.tN ?_ | with_reducible refine K.tR ?_ | with_reducible refine K.bR ?_)
    · (exact K.n2 [some 0] U U U U U (by (repeat' (first | exact trivial | refine And.intro ?_ ?_ | refine ⟨_, U, _, U, _, U, ?_⟩ | exact VLe.of_eq (by simp [Sto.upd, e, Dk.m2, hT]))); done) U (by simp [tupV, V.wk, V.wks, constV, Ty.view, Tm.view, e, Dk.m2, hT]))
    · exact absurd hp' (by simpa using h)
  rw [if_neg k2] at e
  by_cases k3 : kk = 3
  · subst k3
    rw [if_pos rfl] at e
    have a := hH W (g ++ [natT, listT, t]) t hD g3 ht (by simp; omega)
    have b := hH _ g t (hok _ (g ++ [natT, listT, t]) t hD) hg ht (by omega)
    have c := hH _ g listT (hok _ g t (hok _ (g ++ [natT, listT, t]) t hD)) hg small_list (by omega)
    have fa := hF W (g ++ [natT, listT, t]) t g3 ht
    have fb := hF (Dk.tm n W (g ++ [natT, listT, t]) t).2 g t hg ht
    have fc := hF (Dk.tm n (Dk.tm n W (g ++ [natT, listT, t]) t).2 g t).2 g listT hg small_list
    have lo := longer_c g [natT, listT, t] (by simp; omega)
    have en : natT.size = 1 := rfl
    have el : listT.size = 1 := rfl
    have c1 := t_c 2 t [(Dk.tm n W (g ++ [natT, listT, t]) t).1] (by simp; omega) (by omega)
    have c2 := t_c 2 listT [lmT t (Dk.tm n W (g ++ [natT, listT, t]) t).1] (by simp [lmT, Tm.full, Tm.fulls]; omega) (by omega)
    have c3 := t_c 2 natT [lmT listT (lmT t (Dk.tm n W (g ++ [natT, listT, t]) t).1)] (by simp [lmT, Tm.full, Tm.fulls]; omega) (by omega)
    have c4 := t_c 9 t [(Dk.tm n (Dk.tm n W (g ++ [natT, listT, t]) t).2 g t).1, lmT natT (lmT listT (lmT t (Dk.tm n W (g ++ [natT, listT, t]) t).1)), (Dk.tm n (Dk.tm n (Dk.tm n W (g ++ [natT, listT, t]) t).2 g t).2 g listT).1] (by simp [lmT, Tm.full, Tm.fulls]; omega) (by omega)
    repeat' (first | ((with_reducible refine D.nil ?_); first | refine AX.nilL ?_ | refine AX.nilD (by kernel_rfl) ?_) | ((with_reducible refine D.load ?_); refine L.ldb U U U U U U ?_) | ((with_reducible refine D.move ?_); refine L.mv U U U ?_) | ((with_reducible refine D.assign ?_); refine L.asg U U U ?_) | ((with_reducible refine D.bin ?_); first | refine L.sb U U U U (by omega) ?_ | refine L.bn U U U U U ?_) | ((with_reducible refine D.call ?_); first | refine L.c2 (nat_c) U U U U ?_ | refine L.c2 (list_c) U U U U ?_ | (apply L.cb2 (hx8) [0] 0 rfl; rfl; rfl; rfl; rfl; rfl; rfl; (focus ((repeat' (first | exact trivial | refine And.intro ?_ ?_ | refine ⟨_, U, _, U, _, U, ?_⟩ | exact VLe.refl _)); done)); rfl; rfl; rfl; rfl) | (apply L.cb2 (a) [0] 0 rfl; rfl; rfl; rfl; rfl; rfl; rfl; (focus ((repeat' (first | exact trivial | refine And.intro ?_ ?_ | refine ⟨_, U, _, U, _, U, ?_⟩ | exact VLe.refl _)); done)); rfl; rfl; rfl; rfl) | (apply L.cb2 (b) [0] 0 rfl; rfl; rfl; rfl; rfl; rfl; rfl; (focus ((repeat' (first | exact trivial | refine And.intro ?_ ?_ | refine ⟨_, U, _, U, _, U, ?_⟩ | exact VLe.refl _)); done)); rfl; rfl; rfl; rfl) | (apply L.cb2 (c) [0] 0 rfl; rfl; rfl; rfl; rfl; rfl; rfl; (focus ((repeat' (first | exact trivial | refine And.intro ?_ ?_ | refine ⟨_, U, _, U, _, U, ?_⟩ | exact VLe.refl _)); done)); rfl; rfl; rfl; rfl) | refine L.c2 (lo) U U U U ?_ | refine L.c2 (c1) U U U U ?_ | refine L.c2 (c2) U U U U ?_ | refine L.c2 (c3) U U U U ?_ | refine L.c2 (c4) U U U U ?_) | ((with_reducible refine D.alloc ?_); refine L.al U U U ?_) | ((with_reducible refine D.store ?_); refine L.st U U U U U U U U U ?_) | ((with_reducible refine D.ax ?_); first | refine L.bs1 U U U U U (EC.fold_of U) U U ?_ | refine L.bs3 U U U U U (EC.fold_of U) U U U (EC.fold_of U) U U U (EC.fold_of U) U U ?_) | ((with_reducible refine D.aw ?_); (fail_if_success with_reducible refine D.stopR (id := 29) ?_); (fail_if_success with_reducible refine D.stopS (id := 29) ?_); first | ((with_reducible refine D.blk ?_); refine AW.block ?_) | refine K.sq (AW.regL ?_) | refine K.sq (AW.regD mixed (by kernel_rfl) ?_) | refine K.sq (K.sq ?_) | refine AW.regL ?_ | refine AW.condT U ?_ | refine AW.condF U ?_ | refine AW.condS U (fun h => ?_) (fun h => ?_) | refine AW.skip ?_ | refine AW.ret ?_) | with_reducible refine K.tN ?_ | with_reducible refine K.tR ?_ | with_reducible refine K.bR ?_)
    · (exact K.n2 [some 0] U U U U U (by (repeat' (first | exact trivial | refine And.intro ?_ ?_ | refine ⟨_, U, _, U, _, U, ?_⟩ | exact VLe.of_eq (by simp [Sto.upd, e, Dk.m3, hT]))); done) U (by simp [tupV, V.wk, V.wks, constV, Ty.view, Tm.view, e, Dk.m3, hT]))
    · exact absurd hp' (by simpa using h)
  rw [if_neg k3] at e
  by_cases k4 : kk = 4
  · subst k4
    rw [if_pos rfl] at e
    have a := hH D1 g S hD1 hg hSs (by omega)
    have b := hH _ g t (hok _ g S hD1) hg ht (by omega)
    have fa := hF D1 g S hg hSs
    have fb := hF (Dk.tm n D1 g S).2 g t hg ht
    have c1 := n_c 10 [(Dk.tm n D1 g S).1, (Dk.tm n (Dk.tm n D1 g S).2 g t).1] (by simp; omega)
    have c2 := n_c 12 [nT 10 [(Dk.tm n D1 g S).1, (Dk.tm n (Dk.tm n D1 g S).2 g t).1]] (by simp [nT, Tm.full, Tm.fulls, Ty.size, Ty.sizes]; omega)
    repeat' (first | ((with_reducible refine D.nil ?_); first | refine AX.nilL ?_ | refine AX.nilD (by kernel_rfl) ?_) | ((with_reducible refine D.load ?_); refine L.ldb U U U U U U ?_) | ((with_reducible refine D.move ?_); refine L.mv U U U ?_) | ((with_reducible refine D.assign ?_); refine L.asg U U U ?_) | ((with_reducible refine D.bin ?_); first | refine L.sb U U U U (by omega) ?_ | refine L.bn U U U U U ?_) | ((with_reducible refine D.call ?_); first | (apply L.cb2 (hx8) [0] 0 rfl; rfl; rfl; rfl; rfl; rfl; rfl; (focus ((repeat' (first | exact trivial | refine And.intro ?_ ?_ | refine ⟨_, U, _, U, _, U, ?_⟩ | exact VLe.refl _)); done)); rfl; rfl; rfl; rfl) | (apply L.cb2 (tp) [0] 0 rfl; rfl; rfl; rfl; rfl; rfl; rfl; (focus ((repeat' (first | exact trivial | refine And.intro ?_ ?_ | refine ⟨_, U, _, U, _, U, ?_⟩ | exact VLe.refl _)); done)); rfl; rfl; rfl; rfl) | (apply L.cb2 (a) [0] 0 rfl; rfl; rfl; rfl; rfl; rfl; rfl; (focus ((repeat' (first | exact trivial | refine And.intro ?_ ?_ | refine ⟨_, U, _, U, _, U, ?_⟩ | exact VLe.refl _)); done)); rfl; rfl; rfl; rfl) | (apply L.cb2 (b) [0] 0 rfl; rfl; rfl; rfl; rfl; rfl; rfl; (focus ((repeat' (first | exact trivial | refine And.intro ?_ ?_ | refine ⟨_, U, _, U, _, U, ?_⟩ | exact VLe.refl _)); done)); rfl; rfl; rfl; rfl) | refine L.c2 (c1) U U U U ?_ | refine L.c2 (c2) U U U U ?_) | ((with_reducible refine D.alloc ?_); refine L.al U U U ?_) | ((with_reducible refine D.store ?_); refine L.st U U U U U U U U U ?_) | ((with_reducible refine D.ax ?_); first | refine L.bs1 U U U U U (EC.fold_of U) U U ?_ | refine L.bs2 U U U U U (EC.fold_of U) U U U (EC.fold_of U) U U ?_) | ((with_reducible refine D.aw ?_); (fail_if_success with_reducible refine D.stopR (id := 29) ?_); (fail_if_success with_reducible refine D.stopS (id := 29) ?_); first | ((with_reducible refine D.blk ?_); refine AW.block ?_) | refine K.sq (AW.regL ?_) | refine K.sq (AW.regD mixed (by kernel_rfl) ?_) | refine K.sq (K.sq ?_) | refine AW.regL ?_ | refine AW.condT U ?_ | refine AW.condF U ?_ | refine AW.condS U (fun h => ?_) (fun h => ?_) | refine AW.skip ?_ | refine AW.ret ?_) | with_reducible refine K.tN ?_ | with_reducible refine K.tR ?_ | with_reducible refine K.bR ?_)
    · (exact K.n2 [some 0] U U U U U (by (repeat' (first | exact trivial | refine And.intro ?_ ?_ | refine ⟨_, U, _, U, _, U, ?_⟩ | exact VLe.of_eq (by simp [Sto.upd, e, Dk.m4, nT]))); done) U (by simp [tupV, V.wk, V.wks, constV, Ty.view, Tm.view, e, Dk.m4, nT]))
    · exact absurd hp' (by simpa using h)
  rw [if_neg k4] at e
  by_cases k5 : kk = 5
  · subst k5
    rw [if_pos rfl] at e
    repeat' (first | ((with_reducible refine D.nil ?_); refine AX.nilL ?_) | ((with_reducible refine D.move ?_); refine L.mv U U U ?_) | ((with_reducible refine D.assign ?_); refine L.asg U U U ?_) | ((with_reducible refine D.bin ?_); refine L.bn U U U U U ?_) | ((with_reducible refine D.call ?_); first | refine L.lnt U U U U ?_ | (apply L.cb2 (hx8) [0] 0 rfl; rfl; rfl; rfl; rfl; rfl; rfl; (focus ((repeat' (first | exact trivial | refine And.intro ?_ ?_ | refine ⟨_, U, _, U, _, U, ?_⟩ | exact VLe.refl _)); done)); rfl; rfl; rfl; rfl)) | ((with_reducible refine D.aw ?_); (fail_if_success with_reducible refine D.stopR (id := 29) ?_); (fail_if_success with_reducible refine D.stopS (id := 29) ?_); first | ((with_reducible refine D.blk ?_); refine AW.block ?_) | refine K.sq (AW.regL ?_) | refine K.sq (K.sq ?_) | refine AW.regL ?_ | refine AW.condT U ?_ | refine AW.condF U ?_ | refine AW.condS U (fun h => ?_) (fun h => ?_) | refine AW.skip ?_) | with_reducible refine K.tN ?_)
    all_goals first
      | exact absurd hp' (by simpa using h)
      | skip
    refine AW.range g.length (fun m => ∀ j, j < m → isFn g t j = false)
      (fun m => ([(0, .ptr 0 0), (1, .s .ty g), (3, .i depth), (6, .ptr 1 0), (8, .ptr 2 0), (176, .i g.length), (177, .i m)], ⟨3, [(0, .var W.cells), (1, .var t.view), (2, .var [.i 0, .i 0, .i 0, .slice .nil (.t .ty []), .slice .nil (.t .tm [])])]⟩))
      (by omega) (fun m => rfl) (fun m => rfl) U (by intro j hj; omega) (Weak.mk [some 0, some 1, some 2] _ _ _ U U U U (by (repeat' (first | exact trivial | refine And.intro ?_ ?_ | refine ⟨_, U, _, U, ?_⟩ | exact VLe.refl _)); done) (by (repeat' (first | exact trivial | refine And.intro ?_ ?_ | refine ⟨_, U, _, U, _, U, ?_⟩ | exact VLe.refl _)); done)) ?_ ?_
    · intro m hm hP
      have hm2 : g.length - 1 - m < g.length := by omega
      have hat : at0 g (g.length - 1 - m) = g[g.length - 1 - m] := at0_lt hm2
      have hgs : (g[g.length - 1 - m]).small := hg _ (List.getElem_mem hm2)
      have hstep : ∀ b, isFn g t m = b → b = false → ∀ j, j < m + 1 → isFn g t j = false := fun b hb hf j hj => by
        by_cases hjm : j = m
        · rw [hjm, hb, hf]
        · exact hP j (by omega)
      have hfn : isFn g t m = ((g[g.length - 1 - m]).kind == 4 && decide (at0 (g[g.length - 1 - m]).args 1 = t)) := by simp only [isFn, hat]
      by_cases hk4 : (g[g.length - 1 - m]).kind = 4
      · obtain ⟨p, q, hpq⟩ := Ty.args_two hgs.1 (.inr hk4)
        have l0 : 0 < (g[g.length - 1 - m]).args.length := by rw [hpq]; simp
        have l1 : 1 < (g[g.length - 1 - m]).args.length := by rw [hpq]; simp
        have sm := sameTy_c _ ((g[g.length - 1 - m]).args[1]) t (Nat.le_refl _) (by
          have h1 := lsum_mem Ty.size (List.getElem_mem l1)
          have h2 := (g[g.length - 1 - m]).size_eq
          have h3 := hgs.2
          omega)
        have ha1 : at0 (g[g.length - 1 - m]).args 1 = (g[g.length - 1 - m]).args[1] := at0_lt l1
        have ha0 : at0 (g[g.length - 1 - m]).args 0 = (g[g.length - 1 - m]).args[0] := at0_lt l0
        rw [ha1, beq_iff_eq.2 hk4, Bool.true_and] at hfn
        have sm0 : ((g[g.length - 1 - m]).args[0]).small := by
          have h1 := lsum_mem Ty.size (List.getElem_mem l0)
          have h2 := (g[g.length - 1 - m]).size_eq
          have h3 := hgs.2
          have h4 := hgs.1
          rw [Ty.shape_eq, Bool.and_eq_true] at h4
          exact ⟨List.all_eq_true.1 h4.2 _ (List.getElem_mem l0), by omega⟩
        have a := hH W g ((g[g.length - 1 - m]).args[0]) hD hg sm0 (by omega)
        have fa := hF W g ((g[g.length - 1 - m]).args[0]) hg sm0
        have vc := var_c m
        have c1 := n_c 3 [vT m, (Dk.tm n W g ((g[g.length - 1 - m]).args[0])).1] (by simp [vT, Tm.full, Tm.fulls, Ty.size, Ty.sizes]; omega)
        repeat' (first | ((with_reducible refine D.nil ?_); refine AX.nilL ?_) | ((with_reducible refine D.move ?_); refine L.mv U U U ?_) | ((with_reducible refine D.assign ?_); refine L.asg U U U ?_) | ((with_reducible refine D.bin ?_); refine L.sb U U U U (by omega) ?_) | ((with_reducible refine D.call ?_); refine L.lnt U U U U ?_) | ((with_reducible refine D.aw ?_); (fail_if_success with_reducible refine D.stopR (id := 29) ?_); (fail_if_success with_reducible refine D.stopS (id := 29) ?_); refine K.sq (AW.regL ?_)) | with_reducible refine K.tN ?_)
        refine L.ixt (g.length - 1 - m) rfl rfl rfl rfl (by omega) rfl rfl hm2 ?_
        repeat' (first | ((with_reducible refine D.nil ?_); first | refine AX.nilL ?_ | refine AX.nilD (by kernel_rfl) ?_) | ((with_reducible refine D.load ?_); first | refine L.ldb U U U U U U ?_ | refine L.lda U U U U U ?_ | refine AX.sk U U ?_) | ((with_reducible refine D.move ?_); refine L.mv U U U ?_) | ((with_reducible refine D.fieldAddr ?_); first | refine L.fab U U U U U ?_ | refine AX.sk U U ?_ | ((fail_if_success refine AX.wt U ?_); refine AX.gs U U (fun _ => trivial) (fun h => ?_) (fun h => ?_))) | ((with_reducible refine D.bin ?_); first | refine L.sb U U U U (by omega) ?_ | refine L.bn U U U U U ?_) | ((with_reducible refine D.call ?_); first | refine L.c2 (sm) U U U U ?_ | refine L.c2 (vc) U U U U ?_ | (apply L.cb2 (a) [0] 0 rfl; rfl; rfl; rfl; rfl; rfl; rfl; (focus ((repeat' (first | exact trivial | refine And.intro ?_ ?_ | refine ⟨_, U, _, U, _, U, ?_⟩ | exact VLe.refl _)); done)); rfl; rfl; rfl; rfl) | refine L.c2 (c1) U U U U ?_ | refine AX.sk U U ?_) | ((with_reducible refine D.alloc ?_); refine L.al U U U ?_) | ((with_reducible refine D.store ?_); refine L.st U U U U U U U U U ?_) | ((with_reducible refine D.indexAddr ?_); first | refine L.ixt _ U U U U U U U (by first | assumption | (simp at *; omega)) ?_ | refine AX.sk U U ?_) | ((with_reducible refine D.pick ?_); refine L.pk U U U U ?_) | ((with_reducible refine D.ax ?_); refine L.bs2 U U U U U (EC.fold_of U) U U U (EC.fold_of U) U U ?_) | ((with_reducible refine D.aw ?_); (fail_if_success with_reducible refine D.stopR (id := 29) ?_); (fail_if_success with_reducible refine D.stopS (id := 29) ?_); first | refine K.sq (AW.regD mixed (by kernel_rfl) ?_) | refine AW.condF U ?_ | refine AW.condS U (fun h => ?_) (fun h => ?_) | refine AW.skip ?_ | refine AW.ret ?_) | with_reducible refine K.tN ?_ | with_reducible refine K.bN ?_ | with_reducible refine K.tR ?_ | with_reducible refine K.bR ?_ | with_reducible refine K.gR ?_)
        · have hf : isFn g t m = true := hfn.trans h
          have e2 : W.m5 (Dk.tm n) (decide (2 ≤ n)) g t = (apT (vT m) (Dk.tm n W g ((g[g.length - 1 - m]).args[0])).1, (Dk.tm n W g ((g[g.length - 1 - m]).args[0])).2) := by unfold Dk.m5; rw [findF_at hm hP hf]; simp only [hat, ha0]
          rw [e2] at e
          (exact K.n2 [some 0] U U U U U (by (repeat' (first | exact trivial | refine And.intro ?_ ?_ | refine ⟨_, U, _, U, _, U, ?_⟩ | exact VLe.of_eq (by simp [Sto.upd, e, apT, vT]))); done) U (by simp [tupV, V.wk, V.wks, constV, Ty.view, Tm.view, e, apT, vT]))
        · exact ⟨rfl, hstep _ hfn h, (Weak.mk [some 0, some 1, some 2] _ _ _ U U U U (by (repeat' (first | exact trivial | refine And.intro ?_ ?_ | refine ⟨_, U, _, U, ?_⟩ | exact VLe.refl _)); done) (by (repeat' (first | exact trivial | refine And.intro ?_ ?_ | refine ⟨_, U, _, U, _, U, ?_⟩ | exact VLe.refl _)); done))⟩
        · exact absurd hk4 (by simpa using h)
      · repeat' (first | ((with_reducible refine D.nil ?_); refine AX.nilL ?_) | ((with_reducible refine D.move ?_); refine L.mv U U U ?_) | ((with_reducible refine D.assign ?_); refine L.asg U U U ?_) | ((with_reducible refine D.bin ?_); refine L.sb U U U U (by omega) ?_) | ((with_reducible refine D.call ?_); refine L.lnt U U U U ?_) | ((with_reducible refine D.aw ?_); (fail_if_success with_reducible refine D.stopR (id := 29) ?_); (fail_if_success with_reducible refine D.stopS (id := 29) ?_); refine K.sq (AW.regL ?_)) | with_reducible refine K.tN ?_)
        refine L.ixt (g.length - 1 - m) rfl rfl rfl rfl (by omega) rfl rfl hm2 ?_
        repeat' (first | ((with_reducible refine D.nil ?_); first | refine AX.nilL ?_ | refine AX.nilD (by kernel_rfl) ?_) | ((with_reducible refine D.load ?_); first | refine L.ldb U U U U U U ?_ | refine L.lda U U U U U ?_ | refine AX.sk U U ?_) | ((with_reducible refine D.move ?_); refine L.mv U U U ?_) | ((with_reducible refine D.fieldAddr ?_); first | refine L.fab U U U U U ?_ | refine AX.sk U U ?_ | ((fail_if_success refine AX.wt U ?_); refine AX.gs U U (fun _ => trivial) (fun h => ?_) (fun h => ?_))) | ((with_reducible refine D.bin ?_); refine L.bn U U U U U ?_) | ((with_reducible refine D.call ?_); refine AX.sk U U ?_) | ((with_reducible refine D.alloc ?_); refine L.al U U U ?_) | ((with_reducible refine D.store ?_); refine L.st U U U U U U U U U ?_) | ((with_reducible refine D.indexAddr ?_); first | refine L.ixt _ U U U U U U U (by (simp at *; omega)) ?_ | refine AX.sk U U ?_) | ((with_reducible refine D.pick ?_); refine L.pk U U U U ?_) | ((with_reducible refine D.aw ?_); (fail_if_success with_reducible refine D.stopR (id := 29) ?_); (fail_if_success with_reducible refine D.stopS (id := 29) ?_); first | refine K.sq (AW.regD mixed (by kernel_rfl) ?_) | refine AW.condF U ?_ | refine AW.skip ?_) | with_reducible refine K.tN ?_ | with_reducible refine K.bN ?_)
        · exact absurd (by simpa using h) hk4
        · have hk4' : ((g[g.length - 1 - m]).kind == 4) = false := by simpa using hk4
          rw [hk4', Bool.false_and] at hfn
          exact ⟨rfl, hstep _ hfn U, (Weak.mk [some 0, some 1, some 2] _ _ _ U U U U (by (repeat' (first | exact trivial | refine And.intro ?_ ?_ | refine ⟨_, U, _, U, ?_⟩ | exact VLe.refl _)); done) (by (repeat' (first | exact trivial | refine And.intro ?_ ?_ | refine ⟨_, U, _, U, _, U, ?_⟩ | exact VLe.refl _)); done))⟩
    · intro hP
      repeat' (first | with_reducible refine K.tN ?_ | with_reducible refine K.bN ?_)
      have e2 : W.m5 (Dk.tm n) (decide (2 ≤ n)) g t = W.fin (Dk.tm n) (decide (2 ≤ n)) g t := by unfold Dk.m5; rw [findF_none' hP]
      rw [e, e2]; exact AW.weak (Weak.mk [some 0, some 1, some 2] _ _ _ U U U U (by (repeat' (first | exact trivial | refine And.intro ?_ ?_ | refine ⟨_, U, _, U, ?_⟩ | exact VLe.refl _)); done) (by (repeat' (first | exact trivial | refine And.intro ?_ ?_ | refine ⟨_, U, _, U, _, U, ?_⟩ | exact VLe.refl _)); done)) (fin_c n H hn depth hdep W hD g t hg ht h0 hl)
  rw [if_neg k5] at e
  have n0 : (kk == 0) = false := by simpa using k0
  repeat' (first | ((with_reducible refine D.nil ?_); refine AX.nilL ?_) | ((with_reducible refine D.move ?_); refine L.mv U U U ?_) | ((with_reducible refine D.assign ?_); refine L.asg U U U ?_) | ((with_reducible refine D.bin ?_); refine L.bn U U U U U ?_) | ((with_reducible refine D.call ?_); first | refine L.lnt U U U U ?_ | (apply L.cb2 (hx8) [0] 0 rfl; rfl; rfl; rfl; rfl; rfl; rfl; (focus ((repeat' (first | exact trivial | refine And.intro ?_ ?_ | refine ⟨_, U, _, U, _, U, ?_⟩ | exact VLe.refl _)); done)); rfl; rfl; rfl; rfl)) | ((with_reducible refine D.aw ?_); (fail_if_success with_reducible refine D.stopR (id := 29) ?_); (fail_if_success with_reducible refine D.stopS (id := 29) ?_); first | ((with_reducible refine D.blk ?_); refine AW.block ?_) | refine K.sq (AW.regL ?_) | refine K.sq (AW.regD mixed (by kernel_rfl) ?_) | refine K.sq (K.sq ?_) | refine AW.regL ?_ | refine AW.condS U (fun h => ?_) (fun h => ?_) | refine AW.skip ?_) | with_reducible refine K.tN ?_ | with_reducible refine K.bN ?_)
  all_goals first
    | exact absurd hp' (by simpa using h)
    | exact absurd (by simpa using h) k0
    | exact absurd (by simpa using h) k1
    | exact absurd (by simpa using h) k2
    | exact absurd (by simpa using h) k3
    | exact absurd (by simpa using h) k4
    | exact absurd (by simpa using h) k5
    | (rw [e]; exact AW.weak (Weak.mk [some 0, some 1, some 2] _ _ _ U U U U (by (repeat' (first | exact trivial | refine And.intro ?_ ?_ | refine ⟨_, U, _, U, ?_⟩ | exact VLe.refl _)); done) (by (repeat' (first | exact trivial | refine And.intro ?_ ?_ | refine ⟨_, U, _, U, _, U, ?_⟩ | exact VLe.refl _)); done)) (fin_c n H hn depth hdep W hD g t hg ht h0 hl))
theorem gen_c (n : Nat) (H : HT n) (hn : n ≤ 7) (depth : Int) (hdep : depth = (n : Int) - 1) (d : Dk) (hd : d.ok) (g : List Ty) (t : Ty) (hg : smalls g) (ht : t.small) (h0 : n = 0 → t.size = 1) (hl : g.length + 3 * (n + 1) ≤ 10000) :
    AC E 21 [.ptr 0 0, .s .ty g, .agg t.view, .i depth] ⟨1, [(0, .var d.cells)]⟩ (.agg (d.gen (Dk.tm n) (decide (2 ≤ n)) g t).1.view) ⟨1, [(0, .var (d.gen (Dk.tm n) (decide (2 ≤ n)) g t).2.cells)]⟩ := by
  have hsum := smalls_sum hg
  have hvl : (varsT g t).length ≤ g.length := by
    simp only [varsT, List.length_map]
    have := List.length_filter_le (fun i => decide (g[g.length - 1 - i]? = some t)) (List.range g.length)
    simpa using this
  have hv := vars_c g t (by omega)
  have hx3 := next_c d 3 hd (by omega)
  have hd3 := Dk.next_ok hd 3
  have hxl := next_c (d.next 3).2 (varsT g t).length hd3 (by omega)
  have m1 := mid_c n H hn depth hdep d hd g t hg ht h0 hl
  have m2 := mid_c n H hn depth hdep (d.next 3).2 hd3 g t hg ht h0 hl
  have hvar := var_c
  by_cases he : varsT g t = []
  · have e : d.gen (Dk.tm n) (decide (2 ≤ n)) g t = d.mid (Dk.tm n) (decide (2 ≤ n)) g t := by unfold Dk.gen; rw [if_pos he]
    have hl0 : ¬ (((varsT g t).length : Int) > 0) := by rw [he]; simp
    refine AC.mk Tryz.func21 rfl rfl rfl rfl rfl (Nat.le_of_ble_eq_true rfl) ?_
    repeat' (first | ((with_reducible refine D.nil ?_); refine AX.nilL ?_) | ((with_reducible refine D.load ?_); refine L.ldb U U U U U U ?_) | ((with_reducible refine D.move ?_); first | refine L.mv U U U ?_ | refine AX.sk U U ?_ | ((fail_if_success refine AX.wt U ?_); refine AX.gs U U (fun _ => trivial) (fun h => ?_) (fun h => ?_))) | ((with_reducible refine D.assign ?_); refine L.asg U U U ?_) | ((with_reducible refine D.bin ?_); first | refine L.bn U U U U U ?_ | refine AX.sk U U ?_) | ((with_reducible refine D.call ?_); first | refine L.lnt U U U U ?_ | refine L.c2 (hv) U U U U ?_ | (apply L.cb2 (hx3) [0] 0 rfl; rfl; rfl; rfl; rfl; rfl; rfl; (focus ((repeat' (first | exact trivial | refine And.intro ?_ ?_ | refine ⟨_, U, _, U, _, U, ?_⟩ | exact VLe.refl _)); done)); rfl; rfl; rfl; rfl) | refine AX.sk U U ?_) | ((with_reducible refine D.box ?_); refine L.bx U U U U ?_) | ((with_reducible refine D.alloc ?_); refine L.al U U U ?_) | ((with_reducible refine D.pick ?_); refine L.pk U U U U ?_) | ((with_reducible refine D.aw ?_); (fail_if_success with_reducible refine D.stopR (id := 4) ?_); (fail_if_success with_reducible refine D.stopS (id := 4) ?_); first | refine K.sq (AW.regL ?_) | refine K.sq (K.sq ?_) | refine AW.regL ?_ | refine AW.condF U ?_ | refine AW.condS U (fun h => ?_) (fun h => ?_) | refine AW.skip ?_) | with_reducible refine K.tN ?_)
    · rename_i h1; exact absurd (by simpa using h1) hl0
    · rename_i h1; exact absurd (by simpa using h1) hl0
    · rw [e]; exact AW.weak (Weak.mk [some 0, some 1, some 2] _ _ _ U U U U (by (repeat' (first | exact trivial | refine And.intro ?_ ?_ | refine ⟨_, U, _, U, ?_⟩ | exact VLe.refl _)); done) (by (repeat' (first | exact trivial | refine And.intro ?_ ?_ | refine ⟨_, U, _, U, _, U, ?_⟩ | exact VLe.refl _)); done)) m1
  · have e : d.gen (Dk.tm n) (decide (2 ≤ n)) g t = if 0 < (d.next 3).1 then (vT ((varsT g t).getD ((d.next 3).2.next (varsT g t).length).1.toNat 0), ((d.next 3).2.next (varsT g t).length).2) else (d.next 3).2.mid (Dk.tm n) (decide (2 ≤ n)) g t := by unfold Dk.gen; rw [if_neg he]
    have hlp : 0 < (varsT g t).length := List.length_pos_iff.2 he
    have hl0 : ((varsT g t).length : Int) > 0 := by omega
    have hbl := Dk.next_bd (d.next 3).2 (varsT g t).length hl0
    have hlt : ((d.next 3).2.next (varsT g t).length).1.toNat < (varsT g t).length := by omega
    refine AC.mk Tryz.func21 rfl rfl rfl rfl rfl (Nat.le_of_ble_eq_true rfl) ?_
    repeat' (first | ((with_reducible refine D.nil ?_); refine AX.nilL ?_) | ((with_reducible refine D.load ?_); refine L.ldb U U U U U U ?_) | ((with_reducible refine D.move ?_); first | refine L.mv U U U ?_ | refine AX.sk U U ?_ | ((fail_if_success refine AX.wt U ?_); refine AX.gs U U (fun _ => trivial) (fun h => ?_) (fun h => ?_))) | ((with_reducible refine D.assign ?_); refine L.asg U U U ?_) | ((with_reducible refine D.bin ?_); first | refine L.bn U U U U U ?_ | refine AX.sk U U ?_) | ((with_reducible refine D.call ?_); first | refine L.lnt U U U U ?_ | refine L.c2 (hv) U U U U ?_ | (apply L.cb2 (hx3) [0] 0 rfl; rfl; rfl; rfl; rfl; rfl; rfl; (focus ((repeat' (first | exact trivial | refine And.intro ?_ ?_ | refine ⟨_, U, _, U, _, U, ?_⟩ | exact VLe.refl _)); done)); rfl; rfl; rfl; rfl) | (apply L.cb2 (hxl) [0] 0 rfl; rfl; rfl; rfl; rfl; rfl; rfl; (focus ((repeat' (first | exact trivial | refine And.intro ?_ ?_ | refine ⟨_, U, _, U, _, U, ?_⟩ | exact VLe.refl _)); done)); rfl; rfl; rfl; rfl) | refine AX.sk U U ?_) | ((with_reducible refine D.box ?_); refine L.bx U U U U ?_) | ((with_reducible refine D.alloc ?_); refine L.al U U U ?_) | ((with_reducible refine D.pick ?_); refine L.pk U U U U ?_) | ((with_reducible refine D.aw ?_); (fail_if_success with_reducible refine D.stopR (id := 4) ?_); (fail_if_success with_reducible refine D.stopS (id := 4) ?_); first | refine K.sq (AW.regL ?_) | refine K.sq (K.sq ?_) | refine AW.regL ?_ | refine AW.condF U ?_ | refine AW.condS U (fun h => ?_) (fun h => ?_) | refine AW.skip ?_) | with_reducible refine K.tN ?_)
    · refine L.ixt ((d.next 3).2.next (varsT g t).length).1.toNat rfl rfl rfl rfl (by omega) rfl rfl hlt ?_
      have eg : (varsT g t).getD ((d.next 3).2.next (varsT g t).length).1.toNat 0 = (varsT g t)[((d.next 3).2.next (varsT g t).length).1.toNat] := by simp [List.getD_eq_getElem?_getD, hlt]
      rw [if_pos (by simpa using h), eg] at e
      repeat' (first | ((with_reducible refine D.nil ?_); refine AX.nilL ?_) | ((with_reducible refine D.load ?_); refine L.lda U U U U U ?_) | ((with_reducible refine D.call ?_); refine L.c2 (hvar _) U U U U ?_) | ((with_reducible refine D.store ?_); refine L.st U U U U U U U U U ?_) | ((with_reducible refine D.aw ?_); refine AW.ret ?_) | with_reducible refine K.tN ?_ | with_reducible refine K.tR ?_)
      (exact K.n2 [some 0] U U U U U (by (repeat' (first | exact trivial | refine And.intro ?_ ?_ | refine ⟨_, U, _, U, _, U, ?_⟩ | exact VLe.of_eq (by simp [Sto.upd, e, vT]))); done) U (by simp [tupV, V.wk, V.wks, constV, Ty.view, Tm.view, e, vT]))
    · rw [e, if_neg (by simpa using h)]; exact AW.weak (Weak.mk [some 0, some 1, some 2] _ _ _ U U U U (by (repeat' (first | exact trivial | refine And.intro ?_ ?_ | refine ⟨_, U, _, U, ?_⟩ | exact VLe.refl _)); done) (by (repeat' (first | exact trivial | refine And.intro ?_ ?_ | refine ⟨_, U, _, U, _, U, ?_⟩ | exact VLe.refl _)); done)) m2
    · exact absurd hl0 (by simpa using h)
theorem term_c : ∀ n, n ≤ 8 → HT n
  | 0, _ => fun d g t k _ _ _ _ h => by omega
  | n + 1, hn => fun d g t k hk hd hg ht _ h1 hl => gen_c n (term_c n (by omega)) (by omega) k (by omega) d hd g t hg ht (by omega) hl
end Go.Ab
namespace Go.Ab
open Go Go.Proofs
set_option maxRecDepth 100000
set_option maxHeartbeats 4000000
set_option linter.all false
theorem typed_c' (g : List Ty) (t : Tm) (ht : t.full < 137438953472) (hg : ∀ x ∈ g, x.err = 0) (hl : g.length < 100000) : PC E 99 [.s .ty g, .agg t.view] (.tup [.agg (typed g t).1.view, .i (typed g t).2]) := by
  have h1 := checkTmR_c t (by omega)
  have h2 : t.err = 0 → _ := fun h => infer_c _ t g (Nat.le_refl _) (by omega) ((Tm.err_iff t).1 h).1 hg (by omega)
  refine AC.mk Tryz.func99 rfl rfl rfl rfl rfl (Nat.le_of_ble_eq_true rfl) ?_
  repeat' (first | ((with_reducible refine D.nil ?_); refine AX.nilL ?_) | ((with_reducible refine D.load ?_); refine L.ldb U U U U U U ?_) | ((with_reducible refine D.move ?_); refine L.mv U U U ?_) | ((with_reducible refine D.assign ?_); refine L.asg U U U ?_) | ((with_reducible refine D.bin ?_); refine L.bn U U U U U ?_) | ((with_reducible refine D.call ?_); first | refine L.c2 (h1) U U U U ?_ | refine L.c2 (h2 (by simpa using h)) U U U U ?_) | ((with_reducible refine D.extract ?_); refine L.ex U U U U ?_) | ((with_reducible refine D.box ?_); refine L.bx U U U U ?_) | ((with_reducible refine D.alloc ?_); refine L.al U U U ?_) | ((with_reducible refine D.store ?_); refine L.st U U U U U U U U U ?_) | ((with_reducible refine D.ax ?_); refine L.bd U U U U U ?_) | ((with_reducible refine D.aw ?_); first | refine K.sq (AW.regL ?_) | refine K.sq (K.sq ?_) | refine AW.regL ?_ | refine AW.condS U (fun h => ?_) (fun h => ?_) | refine AW.skip ?_ | refine AW.ret ?_) | with_reducible refine K.tN ?_ | with_reducible refine K.tR ?_ | with_reducible refine K.r1 (by with_unfolding_all rfl) (by with_unfolding_all rfl) ?_)
  · have h' : t.err ≠ 0 := by simpa using h
    simp [tupV, V.wk, V.wks, constV, Ty.view, typed, h', noTy]
  · have h' : t.err = 0 := by simpa using h
    simp [tupV, V.wk, V.wks, constV, Ty.view, typed, h']
theorem typeOf_c (g : List Ty) (t : Tm) (ht : t.full < 137438953472) (hg : (g.map Ty.size).sum < 1099511627776) : PC E 60 [.s .ty g, .agg t.view] (.tup [.agg (typeOf g t).1.view, .i (typeOf g t).2]) := by
  have h1 := contextR_c g hg
  have h2 : ctxErr g = 0 → _ := fun h => typed_c' g t ht (ctxErr_all h).2 (by have := (ctxErr_all h).1; omega)
  refine AC.mk Tryz.func60 rfl rfl rfl rfl rfl (Nat.le_of_ble_eq_true rfl) ?_
  repeat' (first | ((with_reducible refine D.nil ?_); refine AX.nilL ?_) | ((with_reducible refine D.load ?_); refine L.ldb U U U U U U ?_) | ((with_reducible refine D.move ?_); refine L.mv U U U ?_) | ((with_reducible refine D.assign ?_); refine L.asg U U U ?_) | ((with_reducible refine D.bin ?_); refine L.bn U U U U U ?_) | ((with_reducible refine D.call ?_); first | refine L.c2 (h1) U U U U ?_ | refine L.c2 (h2 (by simpa using h)) U U U U ?_) | ((with_reducible refine D.extract ?_); refine L.ex U U U U ?_) | ((with_reducible refine D.box ?_); refine L.bx U U U U ?_) | ((with_reducible refine D.alloc ?_); refine L.al U U U ?_) | ((with_reducible refine D.store ?_); refine L.st U U U U U U U U U ?_) | ((with_reducible refine D.ax ?_); refine L.bd U U U U U ?_) | ((with_reducible refine D.aw ?_); first | refine K.sq (AW.regL ?_) | refine K.sq (K.sq ?_) | refine AW.regL ?_ | refine AW.condS U (fun h => ?_) (fun h => ?_) | refine AW.skip ?_ | refine AW.ret ?_) | with_reducible refine K.tN ?_ | with_reducible refine K.tR ?_ | with_reducible refine K.r1 (by with_unfolding_all rfl) (by with_unfolding_all rfl) ?_)
  · have h' : ctxErr g ≠ 0 := by simpa using h
    simp [tupV, V.wk, V.wks, constV, Ty.view, typeOf, h', noTy]
  · have h' : ctxErr g = 0 := by simpa using h
    simp [tupV, V.wk, V.wks, constV, Ty.view, typeOf, h']
theorem sameTm_r (x : Tm) (h : x.full < 1099511627776) : PC E 17 [.agg x.view, .agg x.view] (.bool true) := by
  have := sameTm_c _ x x (Nat.le_refl _) h
  simpa using this
end Go.Ab
namespace Go.Ab
open Go Go.Proofs
set_option maxRecDepth 100000
set_option maxHeartbeats 4000000
set_option linter.all false
theorem few_t (l : List Int) (h : l.length ≤ 500) : PC E 6 [.s .int l] (.bool true) := by
  have := few_c l
  rwa [decide_eq_true h] at this
theorem few_f (l : List Int) (h : ¬ l.length ≤ 500) : PC E 6 [.s .int l] (.bool false) := by
  have := few_c l
  rwa [decide_eq_false h] at this
theorem deck_ok {l : List Int} (h : l.length ≤ 500) : (Dk.mk l 0).ok := ⟨Nat.zero_le _, by simp only; omega⟩
end Go.Ab
namespace Go.Ab
open Go Go.Proofs
set_option maxRecDepth 100000
set_option linter.all false
theorem check2Ty_c (t : Ty) (ht : t.size < 1099511627776) : PC E 103 [.agg t.view] (.i t.err) := by
  have h1 := checkTy_c t ht
  refine AC.mk Tryz.func103 rfl rfl rfl rfl rfl (Nat.le_of_ble_eq_true rfl) ?_
  repeat' (first | ((with_reducible refine D.nil ?_); refine AX.nilL ?_) | ((with_reducible refine D.load ?_); refine L.ldb U U U U U U ?_) | ((with_reducible refine D.move ?_); refine L.mv U U U ?_) | ((with_reducible refine D.assign ?_); refine L.asg U U U ?_) | ((with_reducible refine D.call ?_); refine L.c2 (h1) U U U U ?_) | ((with_reducible refine D.extract ?_); refine L.ex U U U U ?_) | ((with_reducible refine D.box ?_); refine L.bx U U U U ?_) | ((with_reducible refine D.aw ?_); first | refine K.sq (AW.regL ?_) | refine AW.ret ?_) | with_reducible refine K.tN ?_ | with_reducible refine K.r1 (by with_unfolding_all rfl) (by with_unfolding_all rfl) ?_)
  simp [tupV, V.wk, V.wks, constV, Ty.view, Tm.view]
theorem context2_c (l : List Ty) (hl : (l.map Ty.size).sum < 1099511627776) : PC E 68 [.s .ty l] (.i (ctxErr l)) := by
  have hlen := lsum_len Ty.size Ty.size_pos l
  refine AC.mk Tryz.func68 rfl rfl rfl rfl rfl (Nat.le_of_ble_eq_true rfl) ?_
  repeat' (first | ((with_reducible refine D.nil ?_); refine AX.nilL ?_) | ((with_reducible refine D.move ?_); refine L.mv U U U ?_) | ((with_reducible refine D.assign ?_); refine L.asg U U U ?_) | ((with_reducible refine D.bin ?_); refine L.bn U U U U U ?_) | ((with_reducible refine D.call ?_); refine L.lnt U U U U ?_) | ((with_reducible refine D.aw ?_); first | refine K.sq (AW.regL ?_) | refine K.sq (K.sq ?_) | refine AW.regL ?_ | refine AW.condS U (fun h => ?_) (fun h => ?_) | refine AW.skip ?_ | refine AW.ret ?_) | with_reducible refine K.tN ?_ | with_reducible refine K.tR ?_ | with_reducible refine K.r1 (by with_unfolding_all rfl) (by with_unfolding_all rfl) ?_)
  · have h' : l.length > 16 := by simp at h; omega
    simp [tupV, V.wk, V.wks, constV, ctxErr, h']
  have h' : ¬ l.length > 16 := by simp at h; omega
  refine AW.range l.length (fun m => ∀ j (hj : j < l.length), j < m → l[j].err = 0)
    (fun m => ([(9, .s .ty l), (10, .i l.length), (11, .i m)], ⟨0, []⟩))
    (by omega) (fun m => rfl) (fun m => rfl) U (by intro j hj h; omega) (Weak.mk [] _ _ _ U U U U (by (repeat' (first | exact trivial | refine And.intro ?_ ?_ | refine ⟨_, U, _, U, ?_⟩ | exact VLe.refl _)); done) (by (repeat' (first | exact trivial)); done)) ?_ ?_
  · intro m hm hP
    have hs2 := lsum_mem Ty.size (List.getElem_mem hm)
    repeat' (first | ((with_reducible refine D.nil ?_); refine AX.nilL ?_) | ((with_reducible refine D.load ?_); first | refine L.ldb U U U U U U ?_ | refine L.lda U U U U U ?_) | ((with_reducible refine D.move ?_); refine L.mv U U U ?_) | ((with_reducible refine D.assign ?_); refine L.asg U U U ?_) | ((with_reducible refine D.bin ?_); refine L.bn U U U U U ?_) | ((with_reducible refine D.call ?_); refine L.c2 (check2Ty_c _ ?_) U U U U ?_) | ((with_reducible refine D.alloc ?_); refine L.al U U U ?_) | ((with_reducible refine D.store ?_); refine L.st U U U U U U U U U ?_) | ((with_reducible refine D.indexAddr ?_); refine L.ixt _ U U U U U U U (by assumption) ?_) | ((with_reducible refine D.aw ?_); first | refine K.sq (AW.regL ?_) | refine AW.condS U (fun h => ?_) (fun h => ?_) | refine AW.skip ?_ | refine AW.ret ?_) | with_reducible refine K.tN ?_ | with_reducible refine K.bN ?_ | with_reducible refine K.tR ?_ | with_reducible refine K.bR ?_ | with_reducible refine K.gR ?_ | with_reducible refine K.r1 (by with_unfolding_all rfl) (by with_unfolding_all rfl) ?_ | ((with_reducible show @LT.lt Nat _ _ _); omega))
    · have h1 : ¬ l[m].err = 0 := by simpa using h
      simp [tupV, V.wk, V.wks, constV, ctxErr, h', firstErr_at l m hm hP h1]
    · exact ⟨rfl, all_step (p := fun t => Ty.err t = 0) hm hP (by simpa using h), (Weak.mk [] _ _ _ U U U U (by (repeat' (first | exact trivial | refine And.intro ?_ ?_ | refine ⟨_, U, _, U, ?_⟩ | exact VLe.refl _)); done) (by (repeat' (first | exact trivial)); done))⟩
  · intro hP
    repeat' (first | ((with_reducible refine D.nil ?_); refine AX.nilL ?_) | ((with_reducible refine D.assign ?_); refine L.asg U U U ?_) | ((with_reducible refine D.aw ?_); first | refine K.sq (AW.regL ?_) | refine AW.ret ?_) | with_reducible refine K.tN ?_ | with_reducible refine K.r1 (by with_unfolding_all rfl) (by with_unfolding_all rfl) ?_)
    simp [tupV, V.wk, V.wks, constV, ctxErr, h', firstErr_none l hP]
theorem of_c (t : Ty) (ht : t.size < 1099511627776) : PC E 104 [.agg t.view] (.agg (ofT t).view) := by
  have h1 := checkTy_c t ht
  refine AC.mk Tryz.func104 rfl rfl rfl rfl rfl (Nat.le_of_ble_eq_true rfl) ?_
  repeat' (first | ((with_reducible refine D.nil ?_); refine AX.nilL ?_) | ((with_reducible refine D.load ?_); refine L.ldb U U U U U U ?_) | ((with_reducible refine D.move ?_); refine L.mv U U U ?_) | ((with_reducible refine D.assign ?_); refine L.asg U U U ?_) | ((with_reducible refine D.call ?_); refine L.c2 (h1) U U U U ?_) | ((with_reducible refine D.extract ?_); refine L.ex U U U U ?_) | ((with_reducible refine D.box ?_); refine L.bx U U U U ?_) | ((with_reducible refine D.alloc ?_); refine L.al U U U ?_) | ((with_reducible refine D.store ?_); refine L.st U U U U U U U U U ?_) | ((with_reducible refine D.ax ?_); refine L.bd U U U U U ?_) | ((with_reducible refine D.aw ?_); first | refine K.sq (AW.regL ?_) | refine AW.ret ?_) | with_reducible refine K.tN ?_ | with_reducible refine K.r1 (by with_unfolding_all rfl) (by with_unfolding_all rfl) ?_)
  simp [tupV, V.wk, V.wks, constV, Ty.view, Sz.view, ofT]
theorem from_c (l : List Ty) (hl : (l.map Ty.size).sum < 1099511627776) : PC E 69 [.s .ty l] (.s .sz (l.map ofT)) := by
  have hlen := lsum_len Ty.size Ty.size_pos l
  refine AC.mk Tryz.func69 rfl rfl rfl rfl rfl (Nat.le_of_ble_eq_true rfl) ?_
  repeat' (first | ((with_reducible refine D.nil ?_); refine AX.nilL ?_) | ((with_reducible refine D.move ?_); refine L.mv U U U ?_) | ((with_reducible refine D.assign ?_); refine L.asg U U U ?_) | ((with_reducible refine D.call ?_); refine L.lnt U U U U ?_) | ((with_reducible refine D.aw ?_); first | refine K.sq (AW.regL ?_) | refine K.sq (K.sq ?_) | refine AW.regL ?_) | with_reducible refine K.tN ?_)
  refine AW.range l.length (fun m => True)
    (fun m => ([(3, .slice (.own 0) (.t .sz ((l.take m).map ofT))), (6, .s .ty l), (7, .i l.length), (8, .i m)], ⟨1, [(0, .row)]⟩))
    (by omega) (fun m => rfl) (fun m => rfl) U trivial (Weak.mk [none] _ _ _ U U U U (by (repeat' (first | exact trivial | refine And.intro ?_ ?_ | refine ⟨_, U, _, U, ?_⟩ | exact VLe.refl _)); done) (by (repeat' (first | exact trivial | exact Or.inl U | refine And.intro ?_ ?_)); done)) ?_ ?_
  · intro m hm hP
    have hs2 := lsum_mem Ty.size (List.getElem_mem hm)
    repeat' (first | ((with_reducible refine D.nil ?_); refine AX.nilL ?_) | ((with_reducible refine D.load ?_); first | refine L.ldb U U U U U U ?_ | refine L.lda U U U U U ?_) | ((with_reducible refine D.move ?_); refine L.mv U U U ?_) | ((with_reducible refine D.assign ?_); refine L.asg U U U ?_) | ((with_reducible refine D.call ?_); first | refine L.apt U U U U U U (by first | exact trivial | exact ⟨rfl, trivial⟩) U U (by first | omega | (simp; omega)) ?_ | refine L.c2 (of_c _ ?_) U U U U ?_) | ((with_reducible refine D.alloc ?_); refine L.al U U U ?_) | ((with_reducible refine D.store ?_); refine L.st U U U U U U U U U ?_) | ((with_reducible refine D.indexAddr ?_); refine L.ixt _ U U U U U U U (by assumption) ?_) | ((with_reducible refine D.ax ?_); refine L.bs1 U U U U U (EC.fold_of U) U U ?_) | ((with_reducible refine D.aw ?_); first | refine K.sq (AW.regL ?_) | refine AW.regL ?_) | with_reducible refine K.tN ?_ | with_reducible refine K.bN ?_ | ((with_reducible show @LT.lt Nat _ _ _); omega))
    exact ⟨rfl, trivial, (Weak.mk [some 2] _ _ _ U U U U (by (repeat' (first | exact trivial | refine And.intro ?_ ?_ | refine ⟨_, U, _, U, ?_⟩ | exact VLe.refl _ | exact VLe.of_eq (by simp [Sto.upd, map_take _ _ _ hm]))); done) (by (repeat' (first | exact trivial | exact Or.inr ⟨_, U, rfl⟩ | refine And.intro ?_ ?_)); done))⟩
  · intro _
    repeat' (first | ((with_reducible refine D.nil ?_); refine AX.nilL ?_) | ((with_reducible refine D.move ?_); refine L.mv U U U ?_) | ((with_reducible refine D.assign ?_); refine L.asg U U U ?_) | ((with_reducible refine D.aw ?_); first | refine K.sq (AW.regL ?_) | refine AW.ret ?_) | with_reducible refine K.tN ?_ | with_reducible refine K.r1 (by with_unfolding_all rfl) (by with_unfolding_all rfl) ?_)
    simp [tupV, V.wk, V.wks]
theorem is_c (s : Sz) (k : Int) : PC E 131 [.agg s.view, .i k] (.bool (s.ty.kind == k)) := by
  refine AC.mk Tryz.func131 rfl rfl rfl rfl rfl (Nat.le_of_ble_eq_true rfl) ?_
  repeat' (first | ((with_reducible refine D.nil ?_); refine AX.nilL ?_) | ((with_reducible refine D.load ?_); refine L.ldb U U U U U U ?_) | ((with_reducible refine D.move ?_); refine L.mv U U U ?_) | ((with_reducible refine D.fieldAddr ?_); refine L.fab U U U U U ?_) | ((with_reducible refine D.assign ?_); refine L.asg U U U ?_) | ((with_reducible refine D.bin ?_); refine L.bn U U U U U ?_) | ((with_reducible refine D.box ?_); refine L.bx U U U U ?_) | ((with_reducible refine D.aw ?_); first | refine K.sq (AW.regL ?_) | refine AW.ret ?_) | with_reducible refine K.tN ?_ | with_reducible refine K.r1 (by with_unfolding_all rfl) (by with_unfolding_all rfl) ?_)
  simp [tupV, V.wk, V.wks]
theorem part_c (s : Sz) (i : Nat) (hi : i < s.ty.args.length) (hs : s.ty.size < 1099511627776) : PC E 132 [.agg s.view, .i i] (.agg (ofT s.ty.args[i]).view) := by
  have hs2 := lsum_mem Ty.size (List.getElem_mem hi)
  have hsz := s.ty.size_eq
  have h1 := of_c s.ty.args[i] (by omega)
  refine AC.mk Tryz.func132 rfl rfl rfl rfl rfl (Nat.le_of_ble_eq_true rfl) ?_
  repeat' (first | ((with_reducible refine D.nil ?_); refine AX.nilL ?_) | ((with_reducible refine D.load ?_); first | refine L.ldb U U U U U U ?_ | refine L.lda U U U U U ?_) | ((with_reducible refine D.move ?_); refine L.mv U U U ?_) | ((with_reducible refine D.fieldAddr ?_); refine L.fab U U U U U ?_) | ((with_reducible refine D.call ?_); refine L.c2 (h1) U U U U ?_) | ((with_reducible refine D.box ?_); refine L.bx U U U U ?_) | ((with_reducible refine D.alloc ?_); refine L.al U U U ?_) | ((with_reducible refine D.store ?_); refine L.st U U U U U U U U U ?_) | ((with_reducible refine D.indexAddr ?_); refine L.ixt _ U U U U U U U (by assumption) ?_) | ((with_reducible refine D.aw ?_); first | refine K.sq (AW.regL ?_) | refine AW.ret ?_) | with_reducible refine K.tN ?_ | with_reducible refine K.r1 (by with_unfolding_all rfl) (by with_unfolding_all rfl) ?_)
  simp [tupV, V.wk, V.wks, Sz.view, ofT]
theorem sameSz_c (s u : Sz) (hs : s.ty.size < 1099511627776) : PC E 133 [.agg s.view, .agg u.view] (.bool (s.nodes == u.nodes && decide (s.ty = u.ty))) := by
  have h1 := sameTy2_c _ s.ty u.ty (Nat.le_refl _) hs
  refine AC.mk Tryz.func133 rfl rfl rfl rfl rfl (Nat.le_of_ble_eq_true rfl) ?_
  repeat' (first | ((with_reducible refine D.nil ?_); refine AX.nilL ?_) | ((with_reducible refine D.load ?_); first | refine L.ldb U U U U U U ?_ | refine AX.sk U U ?_) | ((with_reducible refine D.move ?_); refine L.mv U U U ?_) | ((with_reducible refine D.fieldAddr ?_); first | refine L.fab U U U U U ?_ | refine AX.sk U U ?_ | ((fail_if_success refine AX.wt U ?_); refine AX.gs U U (fun _ => trivial) (fun h => ?_) (fun h => ?_))) | ((with_reducible refine D.assign ?_); refine L.asg U U U ?_) | ((with_reducible refine D.bin ?_); refine L.bn U U U U U ?_) | ((with_reducible refine D.call ?_); first | refine L.c2 (h1) U U U U ?_ | refine AX.sk U U ?_) | ((with_reducible refine D.box ?_); refine L.bx U U U U ?_) | ((with_reducible refine D.pick ?_); refine L.pk U U U U ?_) | ((with_reducible refine D.aw ?_); first | refine K.sq (AW.regL ?_) | refine AW.ret ?_) | with_reducible refine K.tN ?_ | with_reducible refine K.r1 (by with_unfolding_all rfl) (by with_unfolding_all rfl) ?_)
  all_goals (simp at h; simp [tupV, V.wk, V.wks, h])
theorem join_c (k : Int) (a b : Sz) (ha : 0 ≤ a.nodes ∧ a.nodes < 1099511627776) (hb : 0 ≤ b.nodes ∧ b.nodes < 1099511627776) : PC E 105 [.i k, .agg a.view, .agg b.view] (.tup [.agg (joinS k a b).1.view, .i (joinS k a b).2]) := by
  refine AC.mk Tryz.func105 rfl rfl rfl rfl rfl (Nat.le_of_ble_eq_true rfl) ?_
  repeat' (first | ((with_reducible refine D.nil ?_); refine AX.nilL ?_) | ((with_reducible refine D.load ?_); refine L.ldb U U U U U U ?_) | ((with_reducible refine D.move ?_); refine L.mv U U U ?_) | ((with_reducible refine D.fieldAddr ?_); refine L.fab U U U U U ?_) | ((with_reducible refine D.assign ?_); refine L.asg U U U ?_) | ((with_reducible refine D.bin ?_); first | refine L.ad U U U U (by omega) ?_ | refine L.bn U U U U U ?_) | ((with_reducible refine D.box ?_); refine L.bx U U U U ?_) | ((with_reducible refine D.alloc ?_); refine L.al U U U ?_) | ((with_reducible refine D.store ?_); refine L.st U U U U U U U U U ?_) | ((with_reducible refine D.ax ?_); first | refine L.bd U U U U U ?_ | refine L.bs2 U U U U U (EC.fold_of U) U U U (EC.fold_of U) U U ?_) | ((with_reducible refine D.aw ?_); first | refine K.sq (AW.regL ?_) | refine K.sq (K.sq ?_) | refine AW.regL ?_ | refine AW.condS U (fun h => ?_) (fun h => ?_) | refine AW.skip ?_ | refine AW.ret ?_) | with_reducible refine K.tN ?_ | with_reducible refine K.tR ?_ | with_reducible refine K.r1 (by with_unfolding_all rfl) (by with_unfolding_all rfl) ?_)
  · have h' : 1 + a.nodes + b.nodes > 64 := by simpa using h
    have e : joinS k a b = (zSz, 4) := if_pos h'
    simp [tupV, V.wk, V.wks, constV, Sz.view, zSz, noTy, e]
  · have h' : ¬ 1 + a.nodes + b.nodes > 64 := by simpa using h
    have e : joinS k a b = (⟨.mk k [a.ty, b.ty], 1 + a.nodes + b.nodes⟩, 0) := if_neg h'
    simp [tupV, V.wk, V.wks, constV, Sz.view, e]
theorem plain_c (k : Int) : PC E 130 [.i k] (.s .int (plainK k)) := by
  refine AC.mk Tryz.func130 rfl rfl rfl rfl rfl (Nat.le_of_ble_eq_true rfl) ?_
  repeat' (first | ((with_reducible refine D.nil ?_); refine AX.nilL ?_) | ((with_reducible refine D.move ?_); refine L.mv U U U ?_) | ((with_reducible refine D.assign ?_); refine L.asg U U U ?_) | ((with_reducible refine D.bin ?_); refine L.bn U U U U U ?_) | ((with_reducible refine D.ax ?_); first | refine L.bs1 U U U U U (EC.fold_of U) U U ?_ | refine L.bs2 U U U U U (EC.fold_of U) U U U (EC.fold_of U) U U ?_ | refine L.bs3 U U U U U (EC.fold_of U) U U U (EC.fold_of U) U U U (EC.fold_of U) U U ?_) | ((with_reducible refine D.aw ?_); first | ((with_reducible refine D.blk ?_); refine AW.block ?_) | refine K.sq (AW.regL ?_) | refine K.sq (K.sq ?_) | refine AW.regL ?_ | refine AW.condS U (fun h => ?_) (fun h => ?_) | refine AW.skip ?_ | refine AW.ret ?_) | with_reducible refine K.tN ?_ | with_reducible refine K.bN ?_ | with_reducible refine K.tR ?_ | with_reducible refine K.bR ?_ | with_reducible refine K.r1 (by with_unfolding_all rfl) (by with_unfolding_all rfl) ?_)
  all_goals
    simp only [beq_iff_eq, beq_eq_false_iff_ne, ne_eq] at *
    first
      | (simp [tupV, V.wk, V.wks, constV, plainK, *]; done)
      | (simp [tupV, V.wk, V.wks, constV, plainK, *]; rfl)
theorem tnat_c : PC E 170 [] (.agg natT.view) := by
  refine AC.mk Tryz.func170 rfl rfl rfl rfl rfl (Nat.le_of_ble_eq_true rfl) ?_
  repeat' (first | ((with_reducible refine D.nil ?_); refine AX.nilL ?_) | ((with_reducible refine D.alloc ?_); refine L.al U U U ?_) | ((with_reducible refine D.store ?_); refine L.st U U U U U U U U U ?_) | ((with_reducible refine D.ax ?_); refine L.bd U U U U U ?_) | ((with_reducible refine D.aw ?_); first | refine K.sq (AW.regL ?_) | refine AW.ret ?_) | with_reducible refine K.tN ?_ | with_reducible refine K.r1 (by with_unfolding_all rfl) (by with_unfolding_all rfl) ?_)
  rfl
theorem tlist_c : PC E 171 [] (.agg listT.view) := by
  refine AC.mk Tryz.func171 rfl rfl rfl rfl rfl (Nat.le_of_ble_eq_true rfl) ?_
  repeat' (first | ((with_reducible refine D.nil ?_); refine AX.nilL ?_) | ((with_reducible refine D.alloc ?_); refine L.al U U U ?_) | ((with_reducible refine D.store ?_); refine L.st U U U U U U U U U ?_) | ((with_reducible refine D.ax ?_); refine L.bd U U U U U ?_) | ((with_reducible refine D.aw ?_); first | refine K.sq (AW.regL ?_) | refine AW.ret ?_) | with_reducible refine K.tN ?_ | with_reducible refine K.r1 (by with_unfolding_all rfl) (by with_unfolding_all rfl) ?_)
  rfl
theorem tfun_c (r : Ty) (l : List Ty) (hl : l.length < 1000000) : PC E 169 [.agg r.view, .s .ty l] (.agg (funs r l).view) := by
  refine AC.mk Tryz.func169 rfl rfl rfl rfl rfl (Nat.le_of_ble_eq_true rfl) ?_
  repeat' (first | ((with_reducible refine D.nil ?_); refine AX.nilL ?_) | ((with_reducible refine D.move ?_); refine L.mv U U U ?_) | ((with_reducible refine D.assign ?_); refine L.asg U U U ?_) | ((with_reducible refine D.bin ?_); refine L.sb U U U U (by omega) ?_) | ((with_reducible refine D.call ?_); refine L.lnt U U U U ?_) | ((with_reducible refine D.box ?_); refine L.bx U U U U ?_) | ((with_reducible refine D.alloc ?_); refine L.al U U U ?_) | ((with_reducible refine D.aw ?_); first | refine K.sq (AW.regL ?_) | refine K.sq (K.sq ?_) | refine AW.regL ?_) | with_reducible refine K.tN ?_)
  refine AW.downG l.length (fun m => True)
    (fun m => ([(1, .s .ty l), (2, .ptr 0 0), (4, .ptr 1 0), (5, .i ((m : Int) - 1))], ⟨2, [(0, .var (funs r (l.drop m)).view), (1, .var [.i 0, .slice .nil (.t .ty [])])]⟩))
    (by omega) (fun m => rfl) rfl trivial ?_ ?_ ?_
  · simp only [List.drop_length]
    exact (Weak.mk [some 0, some 1] _ _ _ U U U U (by (repeat' (first | exact trivial | refine And.intro ?_ ?_ | refine ⟨_, U, _, U, ?_⟩ | exact VLe.refl _)); done) (by (repeat' (first | exact trivial | refine And.intro ?_ ?_ | refine ⟨_, U, _, U, _, U, ?_⟩ | exact VLe.refl _)); done))
  · intro m hm _
    have e : funs r (l.drop m) = funT l[m] (funs r (l.drop (m + 1))) := by rw [List.drop_eq_getElem_cons hm]; rfl
    repeat' (first | ((with_reducible refine D.move ?_); refine L.mv U U U ?_) | ((with_reducible refine D.aw ?_); refine AW.regD mixed (by kernel_rfl) ?_))
    refine L.ixt m rfl rfl rfl rfl (by omega) rfl rfl hm ?_
    repeat' (first | ((with_reducible refine D.nil ?_); refine AX.nilD (by kernel_rfl) ?_) | ((with_reducible refine D.load ?_); first | refine L.ldb U U U U U U ?_ | refine L.lda U U U U U ?_) | ((with_reducible refine D.store ?_); refine L.st U U U U U U U U U ?_) | ((with_reducible refine D.ax ?_); first | refine L.bd U U U U U ?_ | refine L.bs2 U U U U U (EC.fold_of U) U U U (EC.fold_of U) U U ?_) | with_reducible refine K.bN ?_)
    refine ⟨rfl, trivial, ?_⟩
    simp only [e]
    exact (Weak.mk [some 0, some 1] _ _ _ U U U U (by (repeat' (first | exact trivial | refine And.intro ?_ ?_ | refine ⟨_, U, _, U, ?_⟩ | exact VLe.refl _)); done) (by (repeat' (first | exact trivial | refine And.intro ?_ ?_ | refine ⟨_, U, _, U, _, U, ?_⟩ | exact VLe.refl _ | exact VLe.any _ _)); done))
  · intro _
    repeat' (first | ((with_reducible refine D.nil ?_); refine AX.nilL ?_) | ((with_reducible refine D.load ?_); refine L.ldb U U U U U U ?_) | ((with_reducible refine D.store ?_); refine L.st U U U U U U U U U ?_) | ((with_reducible refine D.aw ?_); first | refine K.sq (AW.regL ?_) | refine AW.ret ?_) | with_reducible refine K.tN ?_ | with_reducible refine K.r1 (by with_unfolding_all rfl) (by with_unfolding_all rfl) ?_)
    simp [tupV, V.wk, V.wks, Ty.view]
theorem step_c (t : Tm) : PC E 134 [.agg t.view] (.agg (stepT t).view) := by
  have h1 := tfun_c t.ty [natT, listT, t.ty] (by simp)
  have h2 := tfun_c t.ty [natT, t.ty] (by simp)
  refine AC.mk Tryz.func134 rfl rfl rfl rfl rfl (Nat.le_of_ble_eq_true rfl) ?_
  repeat' (first | ((with_reducible refine D.nil ?_); first | refine AX.nilL ?_ | refine AX.nilD (by kernel_rfl) ?_) | ((with_reducible refine D.load ?_); refine L.ldb U U U U U U ?_) | ((with_reducible refine D.fieldAddr ?_); refine L.fab U U U U U ?_) | ((with_reducible refine D.bin ?_); refine L.bn U U U U U ?_) | ((with_reducible refine D.call ?_); first | refine L.c2 (tnat_c) U U U U ?_ | refine L.c2 (tlist_c) U U U U ?_ | refine L.c2 (h1) U U U U ?_ | refine L.c2 (h2) U U U U ?_) | ((with_reducible refine D.box ?_); refine L.bx U U U U ?_) | ((with_reducible refine D.alloc ?_); refine L.al U U U ?_) | ((with_reducible refine D.store ?_); refine L.st U U U U U U U U U ?_) | ((with_reducible refine D.ax ?_); first | refine L.bs2 U U U U U (EC.fold_of U) U U U (EC.fold_of U) U U ?_ | refine L.bs3 U U U U U (EC.fold_of U) U U U (EC.fold_of U) U U U (EC.fold_of U) U U ?_) | ((with_reducible refine D.aw ?_); first | refine K.sq (AW.regL ?_) | refine K.sq (AW.regD mixed (by kernel_rfl) ?_) | refine K.sq (K.sq ?_) | refine AW.regL ?_ | refine AW.condS U (fun h => ?_) (fun h => ?_) | refine AW.skip ?_ | refine AW.ret ?_) | with_reducible refine K.tN ?_ | with_reducible refine K.tR ?_ | with_reducible refine K.r1 (by with_unfolding_all rfl) (by with_unfolding_all rfl) ?_)
  · have h' : t.kind = 9 := by simpa using h
    have e : stepT t = funs t.ty [natT, listT, t.ty] := if_pos h'
    simp [tupV, V.wk, V.wks, constV, Ty.view, e]
  · have h' : ¬ t.kind = 9 := by simpa using h
    have e : stepT t = funs t.ty [natT, t.ty] := if_neg h'
    simp [tupV, V.wk, V.wks, constV, Ty.view, e]
end Go.Ab
namespace Go.Ab
open Go Go.Proofs
set_option maxRecDepth 100000
set_option maxHeartbeats 2000000
set_option linter.all false
theorem nat_of {x : Ty} (h : x.err = 0) (hk : x.kind = 1) : x = natT := (Ty.eq_iff _ _).2 ⟨hk, shape_zero ((Ty.err_iff x).1 h).1 (by omega)⟩
theorem list_of {x : Ty} (h : x.err = 0) (hk : x.kind = 2) : x = listT := (Ty.eq_iff _ _).2 ⟨hk, shape_zero ((Ty.err_iff x).1 h).1 (by omega)⟩
theorem sz_big {x : Ty} (h : x.err = 0) : x.size ≤ 64 := ((Ty.err_iff x).1 h).2
theorem node4_c (i : Int) (th : Ty) (ts : List Tm)  : PC E 106 [.agg (Tm.mk 4 i th ts).view, .agg (pad3 [])] (.tup [.agg (ofT (rule 4 th []).1).view, .i (rule 4 th []).2]) := by
  have hp := plain_c 4
  rw [show plainK 4 = [1] from rfl] at hp
  have ho := of_c (.mk 1 []) (by decide)
  refine AC.mk Tryz.func106 rfl rfl rfl rfl rfl (Nat.le_of_ble_eq_true rfl) ?_
  repeat' (first | ((with_reducible refine D.nil ?_); refine AX.nilL ?_) | ((with_reducible refine D.load ?_); refine L.ldb U U U U U U ?_) | ((with_reducible refine D.move ?_); refine L.mv U U U ?_) | ((with_reducible refine D.fieldAddr ?_); refine L.fab U U U U U ?_) | ((with_reducible refine D.assign ?_); refine L.asg U U U ?_) | ((with_reducible refine D.bin ?_); refine L.bn U U U U U ?_) | ((with_reducible refine D.call ?_); first | refine L.lnt U U U U ?_ | refine L.c2 (hp) U U U U ?_) | ((with_reducible refine D.box ?_); refine L.bx U U U U ?_) | ((with_reducible refine D.alloc ?_); refine L.al U U U ?_) | ((with_reducible refine D.ax ?_); refine L.sl U U U U U U U (by first | omega | (simp only [List.length_cons, List.length_nil]; omega) | (simp; omega) | simp) ?_) | ((with_reducible refine D.aw ?_); first | refine K.sq (AW.regL ?_) | refine K.sq (K.sq ?_) | refine AW.regL ?_ | refine AW.condT U ?_) | with_reducible refine K.tN ?_)
  refine AW.range 0 (fun m => True)
    (fun m => ([(2, .ptr 0 0), (3, .ptr 1 0), (4, .ptr 2 0), (6, .s .int [1]), (18, .s .int []), (19, .i ((0 : Nat) : Int)), (20, .i m)], ⟨3, [(0, .var (Tm.mk 4 i th ts).view), (1, .var (pad3 [])), (2, .var [.i 0, .slice .nil (.t .ty []), .i 0])]⟩))
    (by omega) (fun m => rfl) (fun m => rfl) U trivial (Weak.mk [some 0, some 1, some 2] _ _ _ U U U U (by (repeat' (first | exact trivial | refine And.intro ?_ ?_ | refine ⟨_, U, _, U, ?_⟩ | exact VLe.refl _)); done) (by (repeat' (first | exact trivial | refine And.intro ?_ ?_ | refine ⟨_, U, _, U, _, U, ?_⟩ | exact VLe.refl _)); done)) ?_ ?_
  · intro m hm hP
    omega
  · intro hP
    repeat' (first | ((with_reducible refine D.nil ?_); refine AX.nilL ?_) | ((with_reducible refine D.load ?_); refine L.lda U U U U U ?_) | ((with_reducible refine D.move ?_); refine L.mv U U U ?_) | ((with_reducible refine D.assign ?_); refine L.asg U U U ?_) | ((with_reducible refine D.call ?_); refine L.c2 (ho) U U U U ?_) | ((with_reducible refine D.store ?_); refine L.st U U U U U U U U U ?_) | ((with_reducible refine D.indexAddr ?_); refine L.ixt _ U U U U U U U (by (simp only [Ty.args_mk, Tm.args_mk, List.length_cons, List.length_nil, List.getElem_cons_zero, List.getElem_cons_succ]; omega)) ?_) | ((with_reducible refine D.ax ?_); refine L.bd U U U U U ?_) | ((with_reducible refine D.aw ?_); first | refine K.sq (AW.regL ?_) | refine AW.ret ?_) | with_reducible refine K.tN ?_ | with_reducible refine K.tR ?_ | with_reducible refine K.r1 (by with_unfolding_all rfl) (by with_unfolding_all rfl) ?_)
    have er : rule 4 th [] = (natT, 0) := by simp [rule]
    rw [er]
    rfl
theorem node7_c (i : Int) (th : Ty) (ts : List Tm)  : PC E 106 [.agg (Tm.mk 7 i th ts).view, .agg (pad3 [])] (.tup [.agg (ofT (rule 7 th []).1).view, .i (rule 7 th []).2]) := by
  have hp := plain_c 7
  rw [show plainK 7 = [2] from rfl] at hp
  have ho := of_c (.mk 2 []) (by decide)
  refine AC.mk Tryz.func106 rfl rfl rfl rfl rfl (Nat.le_of_ble_eq_true rfl) ?_
  repeat' (first | ((with_reducible refine D.nil ?_); refine AX.nilL ?_) | ((with_reducible refine D.load ?_); refine L.ldb U U U U U U ?_) | ((with_reducible refine D.move ?_); refine L.mv U U U ?_) | ((with_reducible refine D.fieldAddr ?_); refine L.fab U U U U U ?_) | ((with_reducible refine D.assign ?_); refine L.asg U U U ?_) | ((with_reducible refine D.bin ?_); refine L.bn U U U U U ?_) | ((with_reducible refine D.call ?_); first | refine L.lnt U U U U ?_ | refine L.c2 (hp) U U U U ?_) | ((with_reducible refine D.box ?_); refine L.bx U U U U ?_) | ((with_reducible refine D.alloc ?_); refine L.al U U U ?_) | ((with_reducible refine D.ax ?_); refine L.sl U U U U U U U (by first | omega | (simp only [List.length_cons, List.length_nil]; omega) | (simp; omega) | simp) ?_) | ((with_reducible refine D.aw ?_); first | refine K.sq (AW.regL ?_) | refine K.sq (K.sq ?_) | refine AW.regL ?_ | refine AW.condT U ?_) | with_reducible refine K.tN ?_)
  refine AW.range 0 (fun m => True)
    (fun m => ([(2, .ptr 0 0), (3, .ptr 1 0), (4, .ptr 2 0), (6, .s .int [2]), (18, .s .int []), (19, .i ((0 : Nat) : Int)), (20, .i m)], ⟨3, [(0, .var (Tm.mk 7 i th ts).view), (1, .var (pad3 [])), (2, .var [.i 0, .slice .nil (.t .ty []), .i 0])]⟩))
    (by omega) (fun m => rfl) (fun m => rfl) U trivial (Weak.mk [some 0, some 1, some 2] _ _ _ U U U U (by (repeat' (first | exact trivial | refine And.intro ?_ ?_ | refine ⟨_, U, _, U, ?_⟩ | exact VLe.refl _)); done) (by (repeat' (first | exact trivial | refine And.intro ?_ ?_ | refine ⟨_, U, _, U, _, U, ?_⟩ | exact VLe.refl _)); done)) ?_ ?_
  · intro m hm hP
    omega
  · intro hP
    repeat' (first | ((with_reducible refine D.nil ?_); refine AX.nilL ?_) | ((with_reducible refine D.load ?_); refine L.lda U U U U U ?_) | ((with_reducible refine D.move ?_); refine L.mv U U U ?_) | ((with_reducible refine D.assign ?_); refine L.asg U U U ?_) | ((with_reducible refine D.call ?_); refine L.c2 (ho) U U U U ?_) | ((with_reducible refine D.store ?_); refine L.st U U U U U U U U U ?_) | ((with_reducible refine D.indexAddr ?_); refine L.ixt _ U U U U U U U (by (simp only [Ty.args_mk, Tm.args_mk, List.length_cons, List.length_nil, List.getElem_cons_zero, List.getElem_cons_succ]; omega)) ?_) | ((with_reducible refine D.ax ?_); refine L.bd U U U U U ?_) | ((with_reducible refine D.aw ?_); first | refine K.sq (AW.regL ?_) | refine AW.ret ?_) | with_reducible refine K.tN ?_ | with_reducible refine K.tR ?_ | with_reducible refine K.r1 (by with_unfolding_all rfl) (by with_unfolding_all rfl) ?_)
    have er : rule 7 th [] = (listT, 0) := by simp [rule]
    rw [er]
    rfl
theorem node13_c (i : Int) (th : Ty) (ts : List Tm)  : PC E 106 [.agg (Tm.mk 13 i th ts).view, .agg (pad3 [])] (.tup [.agg (ofT (rule 13 th []).1).view, .i (rule 13 th []).2]) := by
  have hp := plain_c 13
  rw [show plainK 13 = [5] from rfl] at hp
  have ho := of_c (.mk 5 []) (by decide)
  refine AC.mk Tryz.func106 rfl rfl rfl rfl rfl (Nat.le_of_ble_eq_true rfl) ?_
  repeat' (first | ((with_reducible refine D.nil ?_); refine AX.nilL ?_) | ((with_reducible refine D.load ?_); refine L.ldb U U U U U U ?_) | ((with_reducible refine D.move ?_); refine L.mv U U U ?_) | ((with_reducible refine D.fieldAddr ?_); refine L.fab U U U U U ?_) | ((with_reducible refine D.assign ?_); refine L.asg U U U ?_) | ((with_reducible refine D.bin ?_); refine L.bn U U U U U ?_) | ((with_reducible refine D.call ?_); first | refine L.lnt U U U U ?_ | refine L.c2 (hp) U U U U ?_) | ((with_reducible refine D.box ?_); refine L.bx U U U U ?_) | ((with_reducible refine D.alloc ?_); refine L.al U U U ?_) | ((with_reducible refine D.ax ?_); refine L.sl U U U U U U U (by first | omega | (simp only [List.length_cons, List.length_nil]; omega) | (simp; omega) | simp) ?_) | ((with_reducible refine D.aw ?_); first | refine K.sq (AW.regL ?_) | refine K.sq (K.sq ?_) | refine AW.regL ?_ | refine AW.condT U ?_) | with_reducible refine K.tN ?_)
  refine AW.range 0 (fun m => True)
    (fun m => ([(2, .ptr 0 0), (3, .ptr 1 0), (4, .ptr 2 0), (6, .s .int [5]), (18, .s .int []), (19, .i ((0 : Nat) : Int)), (20, .i m)], ⟨3, [(0, .var (Tm.mk 13 i th ts).view), (1, .var (pad3 [])), (2, .var [.i 0, .slice .nil (.t .ty []), .i 0])]⟩))
    (by omega) (fun m => rfl) (fun m => rfl) U trivial (Weak.mk [some 0, some 1, some 2] _ _ _ U U U U (by (repeat' (first | exact trivial | refine And.intro ?_ ?_ | refine ⟨_, U, _, U, ?_⟩ | exact VLe.refl _)); done) (by (repeat' (first | exact trivial | refine And.intro ?_ ?_ | refine ⟨_, U, _, U, _, U, ?_⟩ | exact VLe.refl _)); done)) ?_ ?_
  · intro m hm hP
    omega
  · intro hP
    repeat' (first | ((with_reducible refine D.nil ?_); refine AX.nilL ?_) | ((with_reducible refine D.load ?_); refine L.lda U U U U U ?_) | ((with_reducible refine D.move ?_); refine L.mv U U U ?_) | ((with_reducible refine D.assign ?_); refine L.asg U U U ?_) | ((with_reducible refine D.call ?_); refine L.c2 (ho) U U U U ?_) | ((with_reducible refine D.store ?_); refine L.st U U U U U U U U U ?_) | ((with_reducible refine D.indexAddr ?_); refine L.ixt _ U U U U U U U (by (simp only [Ty.args_mk, Tm.args_mk, List.length_cons, List.length_nil, List.getElem_cons_zero, List.getElem_cons_succ]; omega)) ?_) | ((with_reducible refine D.ax ?_); refine L.bd U U U U U ?_) | ((with_reducible refine D.aw ?_); first | refine K.sq (AW.regL ?_) | refine AW.ret ?_) | with_reducible refine K.tN ?_ | with_reducible refine K.tR ?_ | with_reducible refine K.r1 (by with_unfolding_all rfl) (by with_unfolding_all rfl) ?_)
    have er : rule 13 th [] = (unitT, 0) := by simp [rule]
    rw [er]
    rfl
theorem node5_c (i : Int) (th : Ty) (ts : List Tm) (x : Ty) (ex : x.err = 0) : PC E 106 [.agg (Tm.mk 5 i th ts).view, .agg (pad3 [x])] (.tup [.agg (ofT (rule 5 th [x]).1).view, .i (rule 5 th [x]).2]) := by
  have hp := plain_c 5
  rw [show plainK 5 = [1, 1] from rfl] at hp
  have ho := of_c (.mk 1 []) (by decide)
  have i0 := is_c (ofT x) 1
  refine AC.mk Tryz.func106 rfl rfl rfl rfl rfl (Nat.le_of_ble_eq_true rfl) ?_
  repeat' (first | ((with_reducible refine D.nil ?_); refine AX.nilL ?_) | ((with_reducible refine D.load ?_); refine L.ldb U U U U U U ?_) | ((with_reducible refine D.move ?_); refine L.mv U U U ?_) | ((with_reducible refine D.fieldAddr ?_); refine L.fab U U U U U ?_) | ((with_reducible refine D.assign ?_); refine L.asg U U U ?_) | ((with_reducible refine D.bin ?_); refine L.bn U U U U U ?_) | ((with_reducible refine D.call ?_); first | refine L.lnt U U U U ?_ | refine L.c2 (hp) U U U U ?_) | ((with_reducible refine D.box ?_); refine L.bx U U U U ?_) | ((with_reducible refine D.alloc ?_); refine L.al U U U ?_) | ((with_reducible refine D.ax ?_); refine L.sl U U U U U U U (by first | omega | (simp only [List.length_cons, List.length_nil]; omega) | (simp; omega) | simp) ?_) | ((with_reducible refine D.aw ?_); first | refine K.sq (AW.regL ?_) | refine K.sq (K.sq ?_) | refine AW.regL ?_ | refine AW.condT U ?_) | with_reducible refine K.tN ?_)
  refine AW.range 1 (fun m => (0 < m → x.kind = 1))
    (fun m => ([(2, .ptr 0 0), (3, .ptr 1 0), (4, .ptr 2 0), (6, .s .int [1, 1]), (18, .s .int [1]), (19, .i ((1 : Nat) : Int)), (20, .i m)], ⟨3, [(0, .var (Tm.mk 5 i th ts).view), (1, .var (pad3 [x])), (2, .var [.i 0, .slice .nil (.t .ty []), .i 0])]⟩))
    (by omega) (fun m => rfl) (fun m => rfl) U (by simp) (Weak.mk [some 0, some 1, some 2] _ _ _ U U U U (by (repeat' (first | exact trivial | refine And.intro ?_ ?_ | refine ⟨_, U, _, U, ?_⟩ | exact VLe.refl _)); done) (by (repeat' (first | exact trivial | refine And.intro ?_ ?_ | refine ⟨_, U, _, U, _, U, ?_⟩ | exact VLe.refl _)); done)) ?_ ?_
  · intro m hm hP
    obtain rfl : m = 0 := by omega
    repeat' (first | ((with_reducible refine D.nil ?_); refine AX.nilL ?_) | ((with_reducible refine D.load ?_); first | refine L.ldb U U U U U U ?_ | refine L.lda U U U U U ?_) | ((with_reducible refine D.move ?_); refine L.mv U U U ?_) | ((with_reducible refine D.assign ?_); refine L.asg U U U ?_) | ((with_reducible refine D.call ?_); refine L.c2 (i0) U U U U ?_) | ((with_reducible refine D.store ?_); refine L.st U U U U U U U U U ?_) | ((with_reducible refine D.indexAddr ?_); first | refine L.ixt _ U U U U U U U (by assumption) ?_ | refine L.ixb 0 U U U U U (by decide) U ?_) | ((with_reducible refine D.not ?_); refine L.nt U U U ?_) | ((with_reducible refine D.ax ?_); refine L.bd U U U U U ?_) | ((with_reducible refine D.aw ?_); first | refine K.sq (AW.regL ?_) | refine AW.condS U (fun h => ?_) (fun h => ?_) | refine AW.skip ?_ | refine AW.ret ?_) | with_reducible refine K.tN ?_ | with_reducible refine K.bN ?_ | with_reducible refine K.tR ?_ | with_reducible refine K.bR ?_ | with_reducible refine K.gR ?_ | with_reducible refine K.r1 (by with_unfolding_all rfl) (by with_unfolding_all rfl) ?_)
    · have h' : ¬ x.kind = 1 := by simpa [ofT] using h
      have e : ¬ x = natT := fun hc => h' (by rw [hc]; rfl)
      have er : rule 5 th [x] = (noTy, 7) := by simp [rule, e]
      rw [er]
      simp [tupV, V.wk, V.wks, constV, Sz.view, ofT, noTy, Ty.num, Ty.err, Ty.shape_eq, arT]
    · have h' : x.kind = 1 := by simpa [ofT] using h
      exact ⟨rfl, fun _ => h', (Weak.mk [some 0, some 1, some 2] _ _ _ U U U U (by (repeat' (first | exact trivial | refine And.intro ?_ ?_ | refine ⟨_, U, _, U, ?_⟩ | exact VLe.refl _)); done) (by (repeat' (first | exact trivial | refine And.intro ?_ ?_ | refine ⟨_, U, _, U, _, U, ?_⟩ | exact VLe.refl _)); done))⟩
  · intro hP
    repeat' (first | ((with_reducible refine D.nil ?_); refine AX.nilL ?_) | ((with_reducible refine D.load ?_); refine L.lda U U U U U ?_) | ((with_reducible refine D.move ?_); refine L.mv U U U ?_) | ((with_reducible refine D.assign ?_); refine L.asg U U U ?_) | ((with_reducible refine D.call ?_); refine L.c2 (ho) U U U U ?_) | ((with_reducible refine D.store ?_); refine L.st U U U U U U U U U ?_) | ((with_reducible refine D.indexAddr ?_); refine L.ixt _ U U U U U U U (by (simp only [Ty.args_mk, Tm.args_mk, List.length_cons, List.length_nil, List.getElem_cons_zero, List.getElem_cons_succ]; omega)) ?_) | ((with_reducible refine D.ax ?_); refine L.bd U U U U U ?_) | ((with_reducible refine D.aw ?_); first | refine K.sq (AW.regL ?_) | refine AW.ret ?_) | with_reducible refine K.tN ?_ | with_reducible refine K.tR ?_ | with_reducible refine K.r1 (by with_unfolding_all rfl) (by with_unfolding_all rfl) ?_)
    have q0 : x = natT := nat_of ex (by have := hP; simp_all)
    have er : rule 5 th [x] = (natT, 0) := by simp [rule, q0]
    rw [er]
    rfl
theorem node8_c (i : Int) (th : Ty) (ts : List Tm) (x : Ty) (ex : x.err = 0) (y : Ty) (ey : y.err = 0) : PC E 106 [.agg (Tm.mk 8 i th ts).view, .agg (pad3 [x, y])] (.tup [.agg (ofT (rule 8 th [x, y]).1).view, .i (rule 8 th [x, y]).2]) := by
  have hp := plain_c 8
  rw [show plainK 8 = [2, 1, 2] from rfl] at hp
  have ho := of_c (.mk 2 []) (by decide)
  have i0 := is_c (ofT x) 1
  have i1 := is_c (ofT y) 2
  refine AC.mk Tryz.func106 rfl rfl rfl rfl rfl (Nat.le_of_ble_eq_true rfl) ?_
  repeat' (first | ((with_reducible refine D.nil ?_); refine AX.nilL ?_) | ((with_reducible refine D.load ?_); refine L.ldb U U U U U U ?_) | ((with_reducible refine D.move ?_); refine L.mv U U U ?_) | ((with_reducible refine D.fieldAddr ?_); refine L.fab U U U U U ?_) | ((with_reducible refine D.assign ?_); refine L.asg U U U ?_) | ((with_reducible refine D.bin ?_); refine L.bn U U U U U ?_) | ((with_reducible refine D.call ?_); first | refine L.lnt U U U U ?_ | refine L.c2 (hp) U U U U ?_) | ((with_reducible refine D.box ?_); refine L.bx U U U U ?_) | ((with_reducible refine D.alloc ?_); refine L.al U U U ?_) | ((with_reducible refine D.ax ?_); refine L.sl U U U U U U U (by first | omega | (simp only [List.length_cons, List.length_nil]; omega) | (simp; omega) | simp) ?_) | ((with_reducible refine D.aw ?_); first | refine K.sq (AW.regL ?_) | refine K.sq (K.sq ?_) | refine AW.regL ?_ | refine AW.condT U ?_) | with_reducible refine K.tN ?_)
  refine AW.range 2 (fun m => (0 < m → x.kind = 1) ∧ (1 < m → y.kind = 2))
    (fun m => ([(2, .ptr 0 0), (3, .ptr 1 0), (4, .ptr 2 0), (6, .s .int [2, 1, 2]), (18, .s .int [1, 2]), (19, .i ((2 : Nat) : Int)), (20, .i m)], ⟨3, [(0, .var (Tm.mk 8 i th ts).view), (1, .var (pad3 [x, y])), (2, .var [.i 0, .slice .nil (.t .ty []), .i 0])]⟩))
    (by omega) (fun m => rfl) (fun m => rfl) U (by simp) (Weak.mk [some 0, some 1, some 2] _ _ _ U U U U (by (repeat' (first | exact trivial | refine And.intro ?_ ?_ | refine ⟨_, U, _, U, ?_⟩ | exact VLe.refl _)); done) (by (repeat' (first | exact trivial | refine And.intro ?_ ?_ | refine ⟨_, U, _, U, _, U, ?_⟩ | exact VLe.refl _)); done)) ?_ ?_
  · intro m hm hP
    by_cases hm0 : m = 0
    · subst hm0
      repeat' (first | ((with_reducible refine D.nil ?_); refine AX.nilL ?_) | ((with_reducible refine D.load ?_); first | refine L.ldb U U U U U U ?_ | refine L.lda U U U U U ?_) | ((with_reducible refine D.move ?_); refine L.mv U U U ?_) | ((with_reducible refine D.assign ?_); refine L.asg U U U ?_) | ((with_reducible refine D.call ?_); refine L.c2 (i0) U U U U ?_) | ((with_reducible refine D.store ?_); refine L.st U U U U U U U U U ?_) | ((with_reducible refine D.indexAddr ?_); first | refine L.ixt _ U U U U U U U (by assumption) ?_ | refine L.ixb 0 U U U U U (by decide) U ?_) | ((with_reducible refine D.not ?_); refine L.nt U U U ?_) | ((with_reducible refine D.ax ?_); refine L.bd U U U U U ?_) | ((with_reducible refine D.aw ?_); first | refine K.sq (AW.regL ?_) | refine AW.condS U (fun h => ?_) (fun h => ?_) | refine AW.skip ?_ | refine AW.ret ?_) | with_reducible refine K.tN ?_ | with_reducible refine K.bN ?_ | with_reducible refine K.tR ?_ | with_reducible refine K.bR ?_ | with_reducible refine K.gR ?_ | with_reducible refine K.r1 (by with_unfolding_all rfl) (by with_unfolding_all rfl) ?_)
      · have h' : ¬ x.kind = 1 := by simpa [ofT] using h
        have e : ¬ x = natT := fun hc => h' (by rw [hc]; rfl)
        have er : rule 8 th [x, y] = (noTy, 7) := by simp [rule, e]
        rw [er]
        simp [tupV, V.wk, V.wks, constV, Sz.view, ofT, noTy, Ty.num, Ty.err, Ty.shape_eq, arT]
      · have h' : x.kind = 1 := by simpa [ofT] using h
        exact ⟨rfl, ⟨by intro _; first | exact h' | (have := hP; simp_all), by omega⟩, (Weak.mk [some 0, some 1, some 2] _ _ _ U U U U (by (repeat' (first | exact trivial | refine And.intro ?_ ?_ | refine ⟨_, U, _, U, ?_⟩ | exact VLe.refl _)); done) (by (repeat' (first | exact trivial | refine And.intro ?_ ?_ | refine ⟨_, U, _, U, _, U, ?_⟩ | exact VLe.refl _)); done))⟩
    obtain rfl : m = 1 := by omega
    repeat' (first | ((with_reducible refine D.nil ?_); refine AX.nilL ?_) | ((with_reducible refine D.load ?_); first | refine L.ldb U U U U U U ?_ | refine L.lda U U U U U ?_) | ((with_reducible refine D.move ?_); refine L.mv U U U ?_) | ((with_reducible refine D.assign ?_); refine L.asg U U U ?_) | ((with_reducible refine D.call ?_); refine L.c2 (i1) U U U U ?_) | ((with_reducible refine D.store ?_); refine L.st U U U U U U U U U ?_) | ((with_reducible refine D.indexAddr ?_); first | refine L.ixt _ U U U U U U U (by assumption) ?_ | refine L.ixb 1 U U U U U (by decide) U ?_) | ((with_reducible refine D.not ?_); refine L.nt U U U ?_) | ((with_reducible refine D.ax ?_); refine L.bd U U U U U ?_) | ((with_reducible refine D.aw ?_); first | refine K.sq (AW.regL ?_) | refine AW.condS U (fun h => ?_) (fun h => ?_) | refine AW.skip ?_ | refine AW.ret ?_) | with_reducible refine K.tN ?_ | with_reducible refine K.bN ?_ | with_reducible refine K.tR ?_ | with_reducible refine K.bR ?_ | with_reducible refine K.gR ?_ | with_reducible refine K.r1 (by with_unfolding_all rfl) (by with_unfolding_all rfl) ?_)
    · have h' : ¬ y.kind = 2 := by simpa [ofT] using h
      have e : ¬ y = listT := fun hc => h' (by rw [hc]; rfl)
      have er : rule 8 th [x, y] = (noTy, 7) := by simp [rule, e]
      rw [er]
      simp [tupV, V.wk, V.wks, constV, Sz.view, ofT, noTy, Ty.num, Ty.err, Ty.shape_eq, arT]
    · have h' : y.kind = 2 := by simpa [ofT] using h
      exact ⟨rfl, ⟨by intro _; first | exact h' | (have := hP; simp_all), by intro _; first | exact h' | (have := hP; simp_all)⟩, (Weak.mk [some 0, some 1, some 2] _ _ _ U U U U (by (repeat' (first | exact trivial | refine And.intro ?_ ?_ | refine ⟨_, U, _, U, ?_⟩ | exact VLe.refl _)); done) (by (repeat' (first | exact trivial | refine And.intro ?_ ?_ | refine ⟨_, U, _, U, _, U, ?_⟩ | exact VLe.refl _)); done))⟩
  · intro hP
    repeat' (first | ((with_reducible refine D.nil ?_); refine AX.nilL ?_) | ((with_reducible refine D.load ?_); refine L.lda U U U U U ?_) | ((with_reducible refine D.move ?_); refine L.mv U U U ?_) | ((with_reducible refine D.assign ?_); refine L.asg U U U ?_) | ((with_reducible refine D.call ?_); refine L.c2 (ho) U U U U ?_) | ((with_reducible refine D.store ?_); refine L.st U U U U U U U U U ?_) | ((with_reducible refine D.indexAddr ?_); refine L.ixt _ U U U U U U U (by (simp only [Ty.args_mk, Tm.args_mk, List.length_cons, List.length_nil, List.getElem_cons_zero, List.getElem_cons_succ]; omega)) ?_) | ((with_reducible refine D.ax ?_); refine L.bd U U U U U ?_) | ((with_reducible refine D.aw ?_); first | refine K.sq (AW.regL ?_) | refine AW.ret ?_) | with_reducible refine K.tN ?_ | with_reducible refine K.tR ?_ | with_reducible refine K.r1 (by with_unfolding_all rfl) (by with_unfolding_all rfl) ?_)
    have q0 : x = natT := nat_of ex (by have := hP; simp_all)
    have q1 : y = listT := list_of ey (by have := hP; simp_all)
    have er : rule 8 th [x, y] = (listT, 0) := by simp [rule, q0, q1]
    rw [er]
    rfl
end Go.Ab
namespace Go.Ab
open Go Go.Proofs
set_option maxRecDepth 100000
set_option maxHeartbeats 2000000
set_option linter.all false
theorem plainN_c (k : Int) (h : plainK k = []) : PC E 130 [.i k] (.s .int []) := by
  have := plain_c k
  rwa [h] at this
theorem sameSz_ok (a b : Ty) (ha : a.err = 0) (hb : b.err = 0) : PC E 133 [.agg (ofT a).view, .agg (ofT b).view] (.bool (decide (a = b))) := by
  have := sameSz_c (ofT a) (ofT b) (by have := sz_big ha; show a.size < _; omega)
  rw [show (ofT a).ty = a from rfl, show (ofT b).ty = b from rfl, same_ok ha hb] at this
  exact this
theorem nodes_bd {a : Ty} (h : a.err = 0) : 0 ≤ (ofT a).nodes ∧ (ofT a).nodes < 1099511627776 := by
  have := sz_big h
  simp only [ofT, num_ok h]; omega
theorem node3_c (i : Int) (th : Ty) (ts : List Tm) (x : Ty) (ex : x.err = 0) (y : Ty) (ey : y.err = 0) : PC E 106 [.agg (Tm.mk 3 i th ts).view, .agg (pad3 [x, y])] (.tup [.agg (ofT (rule 3 th [x, y]).1).view, .i (rule 3 th [x, y]).2]) := by
  have hp := plainN_c 3 rfl
  have hi : PC E 131 [.agg (ofT x).view, .i 4] (.bool (x.kind == 4)) := is_c (ofT x) 4
  by_cases hk : x.kind = 4
  · obtain ⟨a, b, hab⟩ := Ty.args_two ((Ty.err_iff x).1 ex).1 (.inr hk)
    have hx : x = funT a b := (Ty.eq_iff _ _).2 ⟨hk, hab⟩
    subst hx
    have ea : a.err = 0 := Ty.err_args ex (by simp)
    have eb : b.err = 0 := Ty.err_args ex (by simp)
    have p0 : PC E 132 [.agg (ofT (funT a b)).view, .i 0] (.agg (ofT a).view) := part_c (ofT (funT a b)) 0 (by simp [ofT]) (by have := sz_big ex; show (funT a b).size < _; omega)
    have p1 : PC E 132 [.agg (ofT (funT a b)).view, .i 1] (.agg (ofT b).view) := part_c (ofT (funT a b)) 1 (by simp [ofT]) (by have := sz_big ex; show (funT a b).size < _; omega)
    have sm := sameSz_ok a y ea ey
    rw [show (Ty.kind (funT a b) == 4) = true from rfl] at hi
    refine AC.mk Tryz.func106 rfl rfl rfl rfl rfl (Nat.le_of_ble_eq_true rfl) ?_
    repeat' (first | ((with_reducible refine D.nil ?_); first | refine AX.nilL ?_ | refine AX.nilD (by kernel_rfl) ?_) | ((with_reducible refine D.load ?_); refine L.ldb U U U U U U ?_) | ((with_reducible refine D.move ?_); refine L.mv U U U ?_) | ((with_reducible refine D.fieldAddr ?_); refine L.fab U U U U U ?_) | ((with_reducible refine D.assign ?_); refine L.asg U U U ?_) | ((with_reducible refine D.bin ?_); refine L.bn U U U U U ?_) | ((with_reducible refine D.call ?_); first | refine L.lnt U U U U ?_ | refine L.c2 (hp) U U U U ?_ | refine L.c2 (hi) U U U U ?_ | refine L.c2 (p0) U U U U ?_ | refine L.c2 (p1) U U U U ?_ | refine L.c2 (sm) U U U U ?_) | ((with_reducible refine D.box ?_); refine L.bx U U U U ?_) | ((with_reducible refine D.alloc ?_); refine L.al U U U ?_) | ((with_reducible refine D.store ?_); refine L.st U U U U U U U U U ?_) | ((with_reducible refine D.indexAddr ?_); first | refine L.ixb 0 U U U U U (by decide) U ?_ | refine L.ixb 1 U U U U U (by decide) U ?_) | ((with_reducible refine D.not ?_); refine L.nt U U U ?_) | ((with_reducible refine D.pick ?_); refine L.pk U U U U ?_) | ((with_reducible refine D.ax ?_); refine L.bd U U U U U ?_) | ((with_reducible refine D.aw ?_); first | ((with_reducible refine D.blk ?_); refine AW.block ?_) | refine K.sq (AW.regL ?_) | refine K.sq (K.sq ?_) | refine AW.regL ?_ | refine AW.regD mixed (by kernel_rfl) ?_ | refine AW.condT U ?_ | refine AW.condF U ?_ | refine AW.condS U (fun h => ?_) (fun h => ?_) | refine AW.skip ?_ | refine AW.ret ?_) | with_reducible refine K.tN ?_ | with_reducible refine K.tR ?_ | with_reducible refine K.bR ?_ | with_reducible refine K.r1 (by with_unfolding_all rfl) (by with_unfolding_all rfl) ?_)
    · have h' : ¬ a = y := by simpa using h
      have er : rule 3 th [funT a b, y] = (noTy, 7) := by simp [rule, h']
      rw [er]; rfl
    · have h' : a = y := by simpa using h
      have er : rule 3 th [funT a b, y] = (b, 0) := by simp [rule, h']
      rw [er]
      simp [tupV, V.wk, V.wks, constV, Sz.view]
  · have hi : PC E 131 [.agg (ofT x).view, .i 4] (.bool false) := by rw [show (x.kind == 4) = false by simpa using hk] at hi; exact hi
    have er : rule 3 th [x, y] = (noTy, 7) := by simp [rule, hk]
    rw [er]
    refine AC.mk Tryz.func106 rfl rfl rfl rfl rfl (Nat.le_of_ble_eq_true rfl) ?_
    repeat' (first | ((with_reducible refine D.nil ?_); first | refine AX.nilL ?_ | refine AX.nilD (by kernel_rfl) ?_) | ((with_reducible refine D.load ?_); first | refine L.ldb U U U U U U ?_ | refine AX.sk U U ?_) | ((with_reducible refine D.move ?_); refine L.mv U U U ?_) | ((with_reducible refine D.fieldAddr ?_); refine L.fab U U U U U ?_) | ((with_reducible refine D.assign ?_); refine L.asg U U U ?_) | ((with_reducible refine D.bin ?_); refine L.bn U U U U U ?_) | ((with_reducible refine D.call ?_); first | refine L.lnt U U U U ?_ | refine L.c2 (hp) U U U U ?_ | refine L.c2 (hi) U U U U ?_ | refine AX.sk U U ?_) | ((with_reducible refine D.box ?_); refine L.bx U U U U ?_) | ((with_reducible refine D.alloc ?_); refine L.al U U U ?_) | ((with_reducible refine D.store ?_); refine L.st U U U U U U U U U ?_) | ((with_reducible refine D.indexAddr ?_); first | refine AX.sk U U ?_ | refine L.ixb 0 U U U U U (by decide) U ?_) | ((with_reducible refine D.not ?_); first | refine L.nt U U U ?_ | refine AX.sk U U ?_) | ((with_reducible refine D.pick ?_); refine L.pk U U U U ?_) | ((with_reducible refine D.ax ?_); refine L.bd U U U U U ?_) | ((with_reducible refine D.aw ?_); first | ((with_reducible refine D.blk ?_); refine AW.block ?_) | refine K.sq (AW.regL ?_) | refine K.sq (K.sq ?_) | refine AW.regL ?_ | refine AW.regD mixed (by kernel_rfl) ?_ | refine AW.condT U ?_ | refine AW.condF U ?_ | refine AW.skip ?_ | refine AW.ret ?_) | with_reducible refine K.tN ?_ | with_reducible refine K.tR ?_ | with_reducible refine K.bR ?_ | with_reducible refine K.r1 (by with_unfolding_all rfl) (by with_unfolding_all rfl) ?_)
    rfl
theorem node10_c (i : Int) (th : Ty) (ts : List Tm) (x : Ty) (ex : x.err = 0) (y : Ty) (ey : y.err = 0) : PC E 106 [.agg (Tm.mk 10 i th ts).view, .agg (pad3 [x, y])] (.tup [.agg (ofT (rule 10 th [x, y]).1).view, .i (rule 10 th [x, y]).2]) := by
  have hp := plainN_c 10 rfl
  have hj := join_c 3 (ofT x) (ofT y) (nodes_bd ex) (nodes_bd ey)
  rw [join_ok (.inl rfl) ex ey] at hj
  have er : rule 10 th [x, y] = okT (.mk 3 [x, y]) := by simp [rule, twoT]
  rw [er]
  refine AC.mk Tryz.func106 rfl rfl rfl rfl rfl (Nat.le_of_ble_eq_true rfl) ?_
  repeat' (first | ((with_reducible refine D.nil ?_); refine AX.nilL ?_) | ((with_reducible refine D.load ?_); refine L.ldb U U U U U U ?_) | ((with_reducible refine D.move ?_); refine L.mv U U U ?_) | ((with_reducible refine D.fieldAddr ?_); refine L.fab U U U U U ?_) | ((with_reducible refine D.assign ?_); refine L.asg U U U ?_) | ((with_reducible refine D.bin ?_); refine L.bn U U U U U ?_) | ((with_reducible refine D.call ?_); first | refine L.lnt U U U U ?_ | refine L.c2 (hp) U U U U ?_ | refine L.c2 (hj) U U U U ?_) | ((with_reducible refine D.extract ?_); refine L.ex U U U U ?_) | ((with_reducible refine D.box ?_); refine L.bx U U U U ?_) | ((with_reducible refine D.alloc ?_); refine L.al U U U ?_) | ((with_reducible refine D.store ?_); refine L.st U U U U U U U U U ?_) | ((with_reducible refine D.indexAddr ?_); first | refine L.ixb 0 U U U U U (by decide) U ?_ | refine L.ixb 1 U U U U U (by decide) U ?_) | ((with_reducible refine D.aw ?_); first | ((with_reducible refine D.blk ?_); refine AW.block ?_) | refine K.sq (AW.regL ?_) | refine K.sq (K.sq ?_) | refine AW.regL ?_ | refine AW.condT U ?_ | refine AW.condF U ?_ | refine AW.skip ?_ | refine AW.ret ?_) | with_reducible refine K.tN ?_ | with_reducible refine K.tR ?_ | with_reducible refine K.bR ?_ | with_reducible refine K.r1 (by with_unfolding_all rfl) (by with_unfolding_all rfl) ?_)
  simp [tupV, V.wk, V.wks, constV, Sz.view]
theorem node11_c (i : Int) (th : Ty) (ts : List Tm) (x : Ty) (ex : x.err = 0) : PC E 106 [.agg (Tm.mk 11 i th ts).view, .agg (pad3 [x])] (.tup [.agg (ofT (rule 11 th [x]).1).view, .i (rule 11 th [x]).2]) := by
  have hp := plainN_c 11 rfl
  have hi : PC E 131 [.agg (ofT x).view, .i 3] (.bool (x.kind == 3)) := is_c (ofT x) 3
  by_cases hk : x.kind = 3
  · obtain ⟨a, b, hab⟩ := Ty.args_two ((Ty.err_iff x).1 ex).1 (.inl hk)
    have hx : x = twoT a b := (Ty.eq_iff _ _).2 ⟨hk, hab⟩
    subst hx
    have p0 : PC E 132 [.agg (ofT (twoT a b)).view, .i 0] (.agg (ofT a).view) := part_c (ofT (twoT a b)) 0 (by simp [ofT]) (by have := sz_big ex; show (twoT a b).size < _; omega)
    rw [show (Ty.kind (twoT a b) == 3) = true from rfl] at hi
    have er : rule 11 th [twoT a b] = (a, 0) := by simp [rule]
    rw [er]
    refine AC.mk Tryz.func106 rfl rfl rfl rfl rfl (Nat.le_of_ble_eq_true rfl) ?_
    repeat' (first | ((with_reducible refine D.nil ?_); refine AX.nilL ?_) | ((with_reducible refine D.load ?_); refine L.ldb U U U U U U ?_) | ((with_reducible refine D.move ?_); refine L.mv U U U ?_) | ((with_reducible refine D.fieldAddr ?_); refine L.fab U U U U U ?_) | ((with_reducible refine D.assign ?_); refine L.asg U U U ?_) | ((with_reducible refine D.bin ?_); refine L.bn U U U U U ?_) | ((with_reducible refine D.call ?_); first | refine L.lnt U U U U ?_ | refine L.c2 (hp) U U U U ?_ | refine L.c2 (hi) U U U U ?_ | refine L.c2 (p0) U U U U ?_) | ((with_reducible refine D.box ?_); refine L.bx U U U U ?_) | ((with_reducible refine D.alloc ?_); refine L.al U U U ?_) | ((with_reducible refine D.store ?_); refine L.st U U U U U U U U U ?_) | ((with_reducible refine D.indexAddr ?_); refine L.ixb 0 U U U U U (by decide) U ?_) | ((with_reducible refine D.not ?_); refine L.nt U U U ?_) | ((with_reducible refine D.aw ?_); first | ((with_reducible refine D.blk ?_); refine AW.block ?_) | refine K.sq (AW.regL ?_) | refine K.sq (K.sq ?_) | refine AW.regL ?_ | refine AW.condT U ?_ | refine AW.condF U ?_ | refine AW.skip ?_ | refine AW.ret ?_) | with_reducible refine K.tN ?_ | with_reducible refine K.bN ?_ | with_reducible refine K.tR ?_ | with_reducible refine K.r1 (by with_unfolding_all rfl) (by with_unfolding_all rfl) ?_)
    simp [tupV, V.wk, V.wks, constV, Sz.view]
  · have hi : PC E 131 [.agg (ofT x).view, .i 3] (.bool false) := by rw [show (x.kind == 3) = false by simpa using hk] at hi; exact hi
    have er : rule 11 th [x] = (noTy, 7) := by simp [rule, hk]
    rw [er]
    refine AC.mk Tryz.func106 rfl rfl rfl rfl rfl (Nat.le_of_ble_eq_true rfl) ?_
    repeat' (first | ((with_reducible refine D.nil ?_); refine AX.nilL ?_) | ((with_reducible refine D.load ?_); refine L.ldb U U U U U U ?_) | ((with_reducible refine D.move ?_); refine L.mv U U U ?_) | ((with_reducible refine D.fieldAddr ?_); refine L.fab U U U U U ?_) | ((with_reducible refine D.assign ?_); refine L.asg U U U ?_) | ((with_reducible refine D.bin ?_); refine L.bn U U U U U ?_) | ((with_reducible refine D.call ?_); first | refine L.lnt U U U U ?_ | refine L.c2 (hp) U U U U ?_ | refine L.c2 (hi) U U U U ?_) | ((with_reducible refine D.box ?_); refine L.bx U U U U ?_) | ((with_reducible refine D.alloc ?_); refine L.al U U U ?_) | ((with_reducible refine D.store ?_); refine L.st U U U U U U U U U ?_) | ((with_reducible refine D.indexAddr ?_); refine L.ixb 0 U U U U U (by decide) U ?_) | ((with_reducible refine D.not ?_); refine L.nt U U U ?_) | ((with_reducible refine D.ax ?_); refine L.bd U U U U U ?_) | ((with_reducible refine D.aw ?_); first | ((with_reducible refine D.blk ?_); refine AW.block ?_) | refine K.sq (AW.regL ?_) | refine K.sq (K.sq ?_) | refine AW.regL ?_ | refine AW.condT U ?_ | refine AW.condF U ?_ | refine AW.skip ?_ | refine AW.ret ?_) | with_reducible refine K.tN ?_ | with_reducible refine K.bN ?_ | with_reducible refine K.tR ?_ | with_reducible refine K.r1 (by with_unfolding_all rfl) (by with_unfolding_all rfl) ?_)
    rfl
theorem node12_c (i : Int) (th : Ty) (ts : List Tm) (x : Ty) (ex : x.err = 0) : PC E 106 [.agg (Tm.mk 12 i th ts).view, .agg (pad3 [x])] (.tup [.agg (ofT (rule 12 th [x]).1).view, .i (rule 12 th [x]).2]) := by
  have hp := plainN_c 12 rfl
  have hi : PC E 131 [.agg (ofT x).view, .i 3] (.bool (x.kind == 3)) := is_c (ofT x) 3
  by_cases hk : x.kind = 3
  · obtain ⟨a, b, hab⟩ := Ty.args_two ((Ty.err_iff x).1 ex).1 (.inl hk)
    have hx : x = twoT a b := (Ty.eq_iff _ _).2 ⟨hk, hab⟩
    subst hx
    have p0 : PC E 132 [.agg (ofT (twoT a b)).view, .i 1] (.agg (ofT b).view) := part_c (ofT (twoT a b)) 1 (by simp [ofT]) (by have := sz_big ex; show (twoT a b).size < _; omega)
    rw [show (Ty.kind (twoT a b) == 3) = true from rfl] at hi
    have er : rule 12 th [twoT a b] = (b, 0) := by simp [rule]
    rw [er]
    refine AC.mk Tryz.func106 rfl rfl rfl rfl rfl (Nat.le_of_ble_eq_true rfl) ?_
    repeat' (first | ((with_reducible refine D.nil ?_); refine AX.nilL ?_) | ((with_reducible refine D.load ?_); refine L.ldb U U U U U U ?_) | ((with_reducible refine D.move ?_); refine L.mv U U U ?_) | ((with_reducible refine D.fieldAddr ?_); refine L.fab U U U U U ?_) | ((with_reducible refine D.assign ?_); refine L.asg U U U ?_) | ((with_reducible refine D.bin ?_); refine L.bn U U U U U ?_) | ((with_reducible refine D.call ?_); first | refine L.lnt U U U U ?_ | refine L.c2 (hp) U U U U ?_ | refine L.c2 (hi) U U U U ?_ | refine L.c2 (p0) U U U U ?_) | ((with_reducible refine D.box ?_); refine L.bx U U U U ?_) | ((with_reducible refine D.alloc ?_); refine L.al U U U ?_) | ((with_reducible refine D.store ?_); refine L.st U U U U U U U U U ?_) | ((with_reducible refine D.indexAddr ?_); refine L.ixb 0 U U U U U (by decide) U ?_) | ((with_reducible refine D.not ?_); refine L.nt U U U ?_) | ((with_reducible refine D.aw ?_); first | ((with_reducible refine D.blk ?_); refine AW.block ?_) | refine K.sq (AW.regL ?_) | refine K.sq (K.sq ?_) | refine AW.regL ?_ | refine AW.condF U ?_ | refine AW.skip ?_ | refine AW.ret ?_) | with_reducible refine K.tN ?_ | with_reducible refine K.bN ?_ | with_reducible refine K.r1 (by with_unfolding_all rfl) (by with_unfolding_all rfl) ?_)
    simp [tupV, V.wk, V.wks, constV, Sz.view]
  · have hi : PC E 131 [.agg (ofT x).view, .i 3] (.bool false) := by rw [show (x.kind == 3) = false by simpa using hk] at hi; exact hi
    have er : rule 12 th [x] = (noTy, 7) := by simp [rule, hk]
    rw [er]
    refine AC.mk Tryz.func106 rfl rfl rfl rfl rfl (Nat.le_of_ble_eq_true rfl) ?_
    repeat' (first | ((with_reducible refine D.nil ?_); refine AX.nilL ?_) | ((with_reducible refine D.load ?_); refine L.ldb U U U U U U ?_) | ((with_reducible refine D.move ?_); refine L.mv U U U ?_) | ((with_reducible refine D.fieldAddr ?_); refine L.fab U U U U U ?_) | ((with_reducible refine D.assign ?_); refine L.asg U U U ?_) | ((with_reducible refine D.bin ?_); refine L.bn U U U U U ?_) | ((with_reducible refine D.call ?_); first | refine L.lnt U U U U ?_ | refine L.c2 (hp) U U U U ?_ | refine L.c2 (hi) U U U U ?_) | ((with_reducible refine D.box ?_); refine L.bx U U U U ?_) | ((with_reducible refine D.alloc ?_); refine L.al U U U ?_) | ((with_reducible refine D.store ?_); refine L.st U U U U U U U U U ?_) | ((with_reducible refine D.indexAddr ?_); refine L.ixb 0 U U U U U (by decide) U ?_) | ((with_reducible refine D.not ?_); refine L.nt U U U ?_) | ((with_reducible refine D.ax ?_); refine L.bd U U U U U ?_) | ((with_reducible refine D.aw ?_); first | ((with_reducible refine D.blk ?_); refine AW.block ?_) | refine K.sq (AW.regL ?_) | refine K.sq (K.sq ?_) | refine AW.regL ?_ | refine AW.condT U ?_ | refine AW.condF U ?_ | refine AW.skip ?_ | refine AW.ret ?_) | with_reducible refine K.tN ?_ | with_reducible refine K.bN ?_ | with_reducible refine K.tR ?_ | with_reducible refine K.r1 (by with_unfolding_all rfl) (by with_unfolding_all rfl) ?_)
    rfl
theorem node6_c (i : Int) (th : Ty) (ts : List Tm) (eh : th.err = 0) (x : Ty) (ex : x.err = 0) (y : Ty) (ey : y.err = 0) (z : Ty) (ez : z.err = 0) : PC E 106 [.agg (Tm.mk 6 i th ts).view, .agg (pad3 [x, y, z])] (.tup [.agg (ofT (rule 6 th [x, y, z]).1).view, .i (rule 6 th [x, y, z]).2]) := by
  have hp := plainN_c 6 rfl
  have ho := of_c th (by have := sz_big eh; omega)
  have sm := sameSz_ok x th ex eh
  have hst := step_c (Tm.mk 6 i th ts)
  rw [show stepT (Tm.mk 6 i th ts) = funT natT (funT th th) from rfl] at hst
  have s2 := sameTy2_c _ y (funT natT (funT th th)) (Nat.le_refl _) (by have := sz_big ey; omega)
  have hi : PC E 131 [.agg (ofT z).view, .i 1] (.bool (z.kind == 1)) := is_c (ofT z) 1
  have hz : (z.kind == 1) = decide (z = natT) := by
    by_cases h : z = natT
    · subst h; rfl
    · have : ¬ z.kind = 1 := fun hk => h (nat_of ez hk)
      rw [decide_eq_false h]; simpa using this
  rw [hz] at hi
  refine AC.mk Tryz.func106 rfl rfl rfl rfl rfl (Nat.le_of_ble_eq_true rfl) ?_
  repeat' (first | ((with_reducible refine D.nil ?_); first | refine AX.nilL ?_ | refine AX.nilD (by kernel_rfl) ?_) | ((with_reducible refine D.load ?_); first | refine L.ldb U U U U U U ?_ | refine AX.sk U U ?_) | ((with_reducible refine D.move ?_); first | refine L.mv U U U ?_ | refine AX.sk U U ?_) | ((with_reducible refine D.fieldAddr ?_); first | refine L.fab U U U U U ?_ | refine AX.sk U U ?_) | ((with_reducible refine D.assign ?_); refine L.asg U U U ?_) | ((with_reducible refine D.bin ?_); refine L.bn U U U U U ?_) | ((with_reducible refine D.call ?_); first | refine L.lnt U U U U ?_ | refine L.c2 (hp) U U U U ?_ | refine L.c2 (ho) U U U U ?_ | refine L.c2 (sm) U U U U ?_ | refine L.c2 (hst) U U U U ?_ | refine L.c2 (s2) U U U U ?_ | refine L.c2 (hi) U U U U ?_ | refine AX.sk U U ?_) | ((with_reducible refine D.box ?_); refine L.bx U U U U ?_) | ((with_reducible refine D.alloc ?_); refine L.al U U U ?_) | ((with_reducible refine D.store ?_); refine L.st U U U U U U U U U ?_) | ((with_reducible refine D.indexAddr ?_); first | refine AX.sk U U ?_ | ((fail_if_success refine AX.wt U ?_); refine AX.gs U U (fun _ => trivial) (fun h => ?_) (fun h => ?_)) | refine L.ixb 0 U U U U U (by decide) U ?_ | refine L.ixb 1 U U U U U (by decide) U ?_ | refine L.ixb 2 U U U U U (by decide) U ?_) | ((with_reducible refine D.not ?_); first | refine L.nt U U U ?_ | refine AX.sk U U ?_) | ((with_reducible refine D.pick ?_); refine L.pk U U U U ?_) | ((with_reducible refine D.ax ?_); refine L.bd U U U U U ?_) | ((with_reducible refine D.aw ?_); first | ((with_reducible refine D.blk ?_); refine AW.block ?_) | refine K.sq (AW.regL ?_) | refine K.sq (K.sq ?_) | refine AW.regL ?_ | refine AW.regD mixed (by kernel_rfl) ?_ | refine AW.condT U ?_ | refine AW.condF U ?_ | refine AW.condS U (fun h => ?_) (fun h => ?_) | refine AW.skip ?_ | refine AW.ret ?_) | with_reducible refine K.tN ?_ | with_reducible refine K.tR ?_ | with_reducible refine K.bR ?_ | with_reducible refine K.r1 (by with_unfolding_all rfl) (by with_unfolding_all rfl) ?_)
  all_goals
    clear hp ho sm hst s2 hi hz
    by_cases p1 : x = th <;> by_cases p2 : y = funT natT (funT th th) <;> by_cases p3 : z = natT <;> first
      | (exfalso; simp [p1, p2, p3] at *; done)
      | (have er : rule 6 th [x, y, z] = (noTy, 7) := by simp [rule, p1, p2, p3]
         rw [er]; rfl)
      | (have er : rule 6 th [x, y, z] = (th, 0) := by simp [rule, p1, p2, p3]
         rw [er]; simp [tupV, V.wk, V.wks, constV, Sz.view]; done)
theorem node9_c (i : Int) (th : Ty) (ts : List Tm) (eh : th.err = 0) (x : Ty) (ex : x.err = 0) (y : Ty) (ey : y.err = 0) (z : Ty) (ez : z.err = 0) : PC E 106 [.agg (Tm.mk 9 i th ts).view, .agg (pad3 [x, y, z])] (.tup [.agg (ofT (rule 9 th [x, y, z]).1).view, .i (rule 9 th [x, y, z]).2]) := by
  have hp := plainN_c 9 rfl
  have ho := of_c th (by have := sz_big eh; omega)
  have sm := sameSz_ok x th ex eh
  have hst := step_c (Tm.mk 9 i th ts)
  rw [show stepT (Tm.mk 9 i th ts) = funT natT (funT listT (funT th th)) from rfl] at hst
  have s2 := sameTy2_c _ y (funT natT (funT listT (funT th th))) (Nat.le_refl _) (by have := sz_big ey; omega)
  have hi : PC E 131 [.agg (ofT z).view, .i 2] (.bool (z.kind == 2)) := is_c (ofT z) 2
  have hz : (z.kind == 2) = decide (z = listT) := by
    by_cases h : z = listT
    · subst h; rfl
    · have : ¬ z.kind = 2 := fun hk => h (list_of ez hk)
      rw [decide_eq_false h]; simpa using this
  rw [hz] at hi
  refine AC.mk Tryz.func106 rfl rfl rfl rfl rfl (Nat.le_of_ble_eq_true rfl) ?_
  repeat' (first | ((with_reducible refine D.nil ?_); first | refine AX.nilL ?_ | refine AX.nilD (by kernel_rfl) ?_) | ((with_reducible refine D.load ?_); first | refine L.ldb U U U U U U ?_ | refine AX.sk U U ?_) | ((with_reducible refine D.move ?_); first | refine L.mv U U U ?_ | refine AX.sk U U ?_) | ((with_reducible refine D.fieldAddr ?_); first | refine L.fab U U U U U ?_ | refine AX.sk U U ?_) | ((with_reducible refine D.assign ?_); refine L.asg U U U ?_) | ((with_reducible refine D.bin ?_); refine L.bn U U U U U ?_) | ((with_reducible refine D.call ?_); first | refine L.lnt U U U U ?_ | refine L.c2 (hp) U U U U ?_ | refine L.c2 (ho) U U U U ?_ | refine L.c2 (sm) U U U U ?_ | refine L.c2 (hst) U U U U ?_ | refine L.c2 (s2) U U U U ?_ | refine L.c2 (hi) U U U U ?_ | refine AX.sk U U ?_) | ((with_reducible refine D.box ?_); refine L.bx U U U U ?_) | ((with_reducible refine D.alloc ?_); refine L.al U U U ?_) | ((with_reducible refine D.store ?_); refine L.st U U U U U U U U U ?_) | ((with_reducible refine D.indexAddr ?_); first | refine AX.sk U U ?_ | ((fail_if_success refine AX.wt U ?_); refine AX.gs U U (fun _ => trivial) (fun h => ?_) (fun h => ?_)) | refine L.ixb 0 U U U U U (by decide) U ?_ | refine L.ixb 1 U U U U U (by decide) U ?_ | refine L.ixb 2 U U U U U (by decide) U ?_) | ((with_reducible refine D.not ?_); first | refine L.nt U U U ?_ | refine AX.sk U U ?_) | ((with_reducible refine D.pick ?_); refine L.pk U U U U ?_) | ((with_reducible refine D.ax ?_); refine L.bd U U U U U ?_) | ((with_reducible refine D.aw ?_); first | ((with_reducible refine D.blk ?_); refine AW.block ?_) | refine K.sq (AW.regL ?_) | refine K.sq (K.sq ?_) | refine AW.regL ?_ | refine AW.regD mixed (by kernel_rfl) ?_ | refine AW.condT U ?_ | refine AW.condF U ?_ | refine AW.condS U (fun h => ?_) (fun h => ?_) | refine AW.skip ?_ | refine AW.ret ?_) | with_reducible refine K.tN ?_ | with_reducible refine K.tR ?_ | with_reducible refine K.bR ?_ | with_reducible refine K.r1 (by with_unfolding_all rfl) (by with_unfolding_all rfl) ?_)
  all_goals
    clear hp ho sm hst s2 hi hz
    by_cases p1 : x = th <;> by_cases p2 : y = funT natT (funT listT (funT th th)) <;> by_cases p3 : z = listT <;> first
      | (exfalso; simp [p1, p2, p3] at *; done)
      | (have er : rule 9 th [x, y, z] = (noTy, 7) := by simp [rule, p1, p2, p3]
         rw [er]; rfl)
      | (have er : rule 9 th [x, y, z] = (th, 0) := by simp [rule, p1, p2, p3]
         rw [er]; simp [tupV, V.wk, V.wks, constV, Sz.view]; done)
theorem node_c (t : Tm) (L : List Ty) (hsh : t.shape = true) (k1 : t.kind ≠ 1) (k2 : t.kind ≠ 2) (hl : L.length = t.args.length) (hg : ∀ x ∈ L, x.err = 0) : PC E 106 [.agg t.view, .agg (pad3 L)] (.tup [.agg (ofT (rule t.kind t.ty L).1).view, .i (rule t.kind t.ty L).2]) := by
  have hak := arK_len hsh
  have hty := shape_ty hsh
  rw [← hl] at hak
  obtain ⟨k, i, th, xs⟩ := t
  simp only [Tm.kind_mk, Tm.ty_mk] at *
  rcases arK_cases hak with ⟨hn, hk⟩ | ⟨hn, hk⟩ | ⟨hn, hk⟩ | ⟨hn, hk⟩
  · have hL := List.eq_nil_of_length_eq_zero hn
    subst hL
    rcases hk with rfl | rfl | rfl | rfl
    · exact absurd rfl k1
    · exact node4_c i th xs
    · exact node7_c i th xs
    · exact node13_c i th xs
  · obtain ⟨x, hL⟩ := len_1 hn
    subst hL
    have ex := hg x (by simp)
    rcases hk with rfl | rfl | rfl | rfl
    · exact absurd rfl k2
    · exact node5_c i th xs x ex
    · exact node11_c i th xs x ex
    · exact node12_c i th xs x ex
  · obtain ⟨x, y, hL⟩ := len_2 hn
    subst hL
    have ex := hg x (by simp)
    have ey := hg y (by simp)
    rcases hk with rfl | rfl | rfl
    · exact node3_c i th xs x ex y ey
    · exact node8_c i th xs x ex y ey
    · exact node10_c i th xs x ex y ey
  · obtain ⟨x, y, z, hL⟩ := len_3 hn
    subst hL
    have ex := hg x (by simp)
    have ey := hg y (by simp)
    have ez := hg z (by simp)
    rcases hk with rfl | rfl
    · exact node6_c i th xs (hty rfl) x ex y ey z ez
    · exact node9_c i th xs (hty rfl) x ex y ey z ez
end Go.Ab
namespace Go.Ab
open Go Go.Proofs
set_option maxRecDepth 100000
set_option maxHeartbeats 4000000
set_option linter.all false
abbrev CT (t : Tm) (g : List Ty) : Prop := PC E 70 [.s .sz (g.map ofT), .agg t.view] (.tup [.agg (ofT (t.inf g).1).view, .i (t.inf g).2])
theorem ct1 (t : Tm) (g : List Ty) (hsh : t.shape = true) (hgn : g.length < 274877906944) (k1 : t.kind = 1) : CT t g := by
  have hix := shape_index hsh
  have hinf := Tm.inf_eq g t
  rw [if_pos k1] at hinf
  refine AC.mk Tryz.func70 rfl rfl rfl rfl rfl (Nat.le_of_ble_eq_true rfl) ?_
  by_cases hlt : t.index ≥ g.length
  · rw [if_pos hlt] at hinf
    repeat' (first | ((with_reducible refine D.nil ?_); refine AX.nilL ?_) | ((with_reducible refine D.load ?_); refine L.ldb U U U U U U ?_) | ((with_reducible refine D.move ?_); refine L.mv U U U ?_) | ((with_reducible refine D.fieldAddr ?_); refine L.fab U U U U U ?_) | ((with_reducible refine D.assign ?_); refine L.asg U U U ?_) | ((with_reducible refine D.bin ?_); refine L.bn U U U U U ?_) | ((with_reducible refine D.call ?_); refine L.lnt U U U U ?_) | ((with_reducible refine D.box ?_); refine L.bx U U U U ?_) | ((with_reducible refine D.alloc ?_); refine L.al U U U ?_) | ((with_reducible refine D.store ?_); refine L.st U U U U U U U U U ?_) | ((with_reducible refine D.ax ?_); refine L.bd U U U U U ?_) | ((with_reducible refine D.aw ?_); first | refine K.sq (AW.regL ?_) | refine K.sq (K.sq ?_) | refine AW.regL ?_ | refine AW.condS U (fun h => ?_) (fun h => ?_) | refine AW.skip ?_ | refine AW.ret ?_) | with_reducible refine K.tN ?_ | with_reducible refine K.tR ?_ | with_reducible refine K.r1 (by with_unfolding_all rfl) (by with_unfolding_all rfl) ?_)
    all_goals first
      | (exfalso; simp_all; done)
      | (rw [hinf]; rfl)
      | (exfalso; simp at h; omega)
  · rw [if_neg hlt] at hinf
    have h0 : g.length - 1 - t.index.toNat < g.length := by omega
    have h1 : g.length - 1 - t.index.toNat < (g.map ofT).length := by simpa using h0
    have eg : (g.map ofT)[g.length - 1 - t.index.toNat] = ofT g[g.length - 1 - t.index.toNat] := by simp
    rw [at0_lt h0] at hinf
    have hl : (g.map ofT).length = g.length := by simp
    repeat' (first | ((with_reducible refine D.nil ?_); refine AX.nilL ?_) | ((with_reducible refine D.load ?_); refine L.ldb U U U U U U ?_) | ((with_reducible refine D.move ?_); refine L.mv U U U ?_) | ((with_reducible refine D.fieldAddr ?_); refine L.fab U U U U U ?_) | ((with_reducible refine D.assign ?_); refine L.asg U U U ?_) | ((with_reducible refine D.bin ?_); first | refine L.sb U U U U (by omega) ?_ | refine L.bn U U U U U ?_) | ((with_reducible refine D.call ?_); refine L.lnt U U U U ?_) | ((with_reducible refine D.box ?_); refine L.bx U U U U ?_) | ((with_reducible refine D.alloc ?_); refine L.al U U U ?_) | ((with_reducible refine D.store ?_); refine L.st U U U U U U U U U ?_) | ((with_reducible refine D.ax ?_); refine L.bd U U U U U ?_) | ((with_reducible refine D.aw ?_); first | refine K.sq (AW.regL ?_) | refine K.sq (K.sq ?_) | refine AW.regL ?_ | refine AW.condS U (fun h => ?_) (fun h => ?_) | refine AW.skip ?_ | refine AW.ret ?_) | with_reducible refine K.tN ?_ | with_reducible refine K.tR ?_ | with_reducible refine K.r1 (by with_unfolding_all rfl) (by with_unfolding_all rfl) ?_)
    all_goals first
      | (exfalso; simp_all; done)
      | (exfalso; simp at h; omega)
      | skip
    refine L.ixt (g.length - 1 - t.index.toNat) rfl rfl rfl rfl (by simp only [hl]; omega) rfl rfl h1 ?_
    rw [eg]
    repeat' (first | ((with_reducible refine D.nil ?_); refine AX.nilL ?_) | ((with_reducible refine D.load ?_); refine L.lda U U U U U ?_) | ((with_reducible refine D.assign ?_); refine L.asg U U U ?_) | ((with_reducible refine D.store ?_); refine L.st U U U U U U U U U ?_) | ((with_reducible refine D.aw ?_); refine AW.ret ?_) | with_reducible refine K.tN ?_ | with_reducible refine K.tR ?_ | with_reducible refine K.r1 (by with_unfolding_all rfl) (by with_unfolding_all rfl) ?_)
    rw [hinf]
    simp [tupV, V.wk, V.wks, constV, Sz.view, EC.view]
theorem ct2 (i : Int) (th : Ty) (a : Tm) (g : List Ty) (hsh : (Tm.mk 2 i th [a]).shape = true) (hg : ∀ x ∈ g, x.err = 0) (hgn : g.length < 274877906944) (ih : CT a (g ++ [th])) : CT (Tm.mk 2 i th [a]) g := by
  have hth : th.err = 0 := shape_ty hsh rfl
  have hg' : ∀ x ∈ g ++ [th], x.err = 0 := fun x hx => by
    rcases List.mem_append.1 hx with hx | hx
    · exact hg x hx
    · simp at hx; subst hx; exact hth
  have hgood := Tm.inf_good a (g ++ [th]) (shape_args hsh a (by simp)) hg'
  have hinf : (Tm.mk 2 i th [a]).inf g = if (a.inf (g ++ [th])).2 ≠ 0 then (noTy, (a.inf (g ++ [th])).2) else okT (funT th (a.inf (g ++ [th])).1) := by
    rw [Tm.inf_eq]
    simp only [Tm.kind_mk, Tm.args_mk, Tm.ty_mk, Tm.infs, ne_eq]
    by_cases h : (a.inf (g ++ [th])).2 = 0 <;> simp [h]
  have hc : PC E 70 [.s .sz (g.map ofT ++ [ofT th]), .agg a.view] (.tup [.agg (ofT (a.inf (g ++ [th])).1).view, .i (a.inf (g ++ [th])).2]) := by
    have := ih
    unfold CT at this
    rwa [List.map_append] at this
  have ho := of_c th (by have := sz_big hth; omega)
  have hj : (a.inf (g ++ [th])).2 = 0 → PC E 105 _ _ := fun h => join_c 4 (ofT th) (ofT (a.inf (g ++ [th])).1) (nodes_bd hth) (nodes_bd (hgood h))
  refine AC.mk Tryz.func70 rfl rfl rfl rfl rfl (Nat.le_of_ble_eq_true rfl) ?_
  repeat' (first | ((with_reducible refine D.nil ?_); first | refine AX.nilL ?_ | refine AX.nilD (by kernel_rfl) ?_) | ((with_reducible refine D.load ?_); first | refine L.ldb U U U U U U ?_ | refine L.lda U U U U U ?_) | ((with_reducible refine D.move ?_); refine L.mv U U U ?_) | ((with_reducible refine D.fieldAddr ?_); refine L.fab U U U U U ?_) | ((with_reducible refine D.assign ?_); refine L.asg U U U ?_) | ((with_reducible refine D.bin ?_); refine L.bn U U U U U ?_) | ((with_reducible refine D.call ?_); first | refine L.lnt U U U U ?_ | refine L.aptF U U U U (by first | assumption | simp) U U U (by first | omega | (simp; omega)) ?_ | refine L.c2 (ho) U U U U ?_ | refine L.c2 (hc) U U U U ?_ | refine L.c2 (hj (by simpa using h)) U U U U ?_) | ((with_reducible refine D.extract ?_); refine L.ex U U U U ?_) | ((with_reducible refine D.box ?_); refine L.bx U U U U ?_) | ((with_reducible refine D.alloc ?_); refine L.al U U U ?_) | ((with_reducible refine D.store ?_); refine L.st U U U U U U U U U ?_) | ((with_reducible refine D.indexAddr ?_); refine L.ixt _ U U U U U U U (by (simp only [Ty.args_mk, Tm.args_mk, List.length_cons, List.length_nil, List.getElem_cons_zero, List.getElem_cons_succ]; omega)) ?_) | ((with_reducible refine D.ax ?_); first | refine L.bd U U U U U ?_ | refine L.bs1 U U U U U (EC.fold_of U) U U ?_ | refine L.s3 U U U U U U ?_) | ((with_reducible refine D.aw ?_); first | refine K.sq (AW.regL ?_) | refine K.sq (AW.regD mixed (by kernel_rfl) ?_) | refine K.sq (K.sq ?_) | refine AW.regL ?_ | refine AW.condT U ?_ | refine AW.condF U ?_ | refine AW.condS U (fun h => ?_) (fun h => ?_) | refine AW.skip ?_ | refine AW.ret ?_) | with_reducible refine K.tN ?_ | with_reducible refine K.tR ?_ | with_reducible refine K.r1 (by with_unfolding_all rfl) (by with_unfolding_all rfl) ?_)
  · have h' : (a.inf (g ++ [th])).2 ≠ 0 := by simpa using h
    rw [hinf, if_pos h']; rfl
  · have h' : (a.inf (g ++ [th])).2 = 0 := by simpa using h
    rw [hinf, if_neg (by simp [h']), show okT (funT th (a.inf (g ++ [th])).1) = okT (.mk 4 [th, (a.inf (g ++ [th])).1]) from rfl, join_ok (.inr rfl) hth (hgood h')]
    simp [tupV, V.wk, V.wks, constV, Sz.view]
theorem cn0 (k i : Int) (th : Ty)  (g : List Ty) (hsh : (Tm.mk k i th []).shape = true) (k1 : k ≠ 1) (k2 : k ≠ 2) (hg : ∀ x ∈ g, x.err = 0)  : CT (Tm.mk k i th []) g := by
  have hinf := Tm.inf_eq g (Tm.mk k i th [])
  simp only [Tm.kind_mk, Tm.ty_mk, Tm.args_mk, k1, k2, if_false] at hinf
  have hnode : PC E 106 [.agg (Tm.mk k i th []).view, .agg (pad3 [])] (.tup [.agg (ofT (rule k th []).1).view, .i (rule k th []).2]) := node_c (Tm.mk k i th []) [] hsh k1 k2 rfl (by intro x hx; simp at hx)
  refine AC.mk Tryz.func70 rfl rfl rfl rfl rfl (Nat.le_of_ble_eq_true rfl) ?_
  repeat' (first | ((with_reducible refine D.nil ?_); refine AX.nilL ?_) | ((with_reducible refine D.load ?_); refine L.ldb U U U U U U ?_) | ((with_reducible refine D.move ?_); refine L.mv U U U ?_) | ((with_reducible refine D.fieldAddr ?_); refine L.fab U U U U U ?_) | ((with_reducible refine D.assign ?_); refine L.asg U U U ?_) | ((with_reducible refine D.bin ?_); refine L.bn U U U U U ?_) | ((with_reducible refine D.call ?_); refine L.lnt U U U U ?_) | ((with_reducible refine D.box ?_); refine L.bx U U U U ?_) | ((with_reducible refine D.alloc ?_); refine L.al U U U ?_) | ((with_reducible refine D.store ?_); refine L.st U U U U U U U U U ?_) | ((with_reducible refine D.ax ?_); refine L.bd U U U U U ?_) | ((with_reducible refine D.aw ?_); first | refine K.sq (AW.regL ?_) | refine K.sq (K.sq ?_) | refine AW.regL ?_ | refine AW.condS U (fun h => ?_) (fun h => ?_) | refine AW.skip ?_ | refine AW.ret ?_) | with_reducible refine K.tN ?_ | with_reducible refine K.tR ?_ | with_reducible refine K.r1 (by with_unfolding_all rfl) (by with_unfolding_all rfl) ?_)
  all_goals first
    | (exfalso; simp_all; done)
    | skip
  refine AW.range 0 (fun m => True)
    (fun m => ([(0, .s .sz (g.map ofT)), (3, .ptr 0 0), (4, .ptr 1 0), (9, .ptr 2 0), (65, .s .tm []), (66, .i ((0 : Nat) : Int)), (67, .i m)], ⟨3, [(0, .var (Tm.mk k i th []).view), (1, .var [.i 0, .slice .nil (.t .ty []), .i 0]), (2, .var ( pad3 []))]⟩))
    (by omega) (fun m => rfl) (fun m => rfl) U trivial (Weak.mk [some 0, some 1, some 2] _ _ _ U U U U (by (repeat' (first | exact trivial | refine And.intro ?_ ?_ | refine ⟨_, U, _, U, ?_⟩ | exact VLe.refl _)); done) (by (repeat' (first | exact trivial | refine And.intro ?_ ?_ | refine ⟨_, U, _, U, _, U, ?_⟩ | exact VLe.refl _ | exact VLe.any _ _)); done)) ?_ ?_
  · intro m hm hP
    omega
  · intro hP
    have er : (Tm.mk k i th []).inf g = rule k th [] := by rw [hinf]; simp [Tm.infs]
    have hnode := hnode 
    repeat' (first | ((with_reducible refine D.nil ?_); refine AX.nilL ?_) | ((with_reducible refine D.load ?_); refine L.ldb U U U U U U ?_) | ((with_reducible refine D.assign ?_); refine L.asg U U U ?_) | ((with_reducible refine D.call ?_); refine L.c2 (hnode) U U U U ?_) | ((with_reducible refine D.extract ?_); refine L.ex U U U U ?_) | ((with_reducible refine D.store ?_); refine L.st U U U U U U U U U ?_) | ((with_reducible refine D.aw ?_); first | refine K.sq (AW.regL ?_) | refine AW.ret ?_) | with_reducible refine K.tN ?_ | with_reducible refine K.r1 (by with_unfolding_all rfl) (by with_unfolding_all rfl) ?_)
    rw [er]
    simp [tupV, V.wk, V.wks, constV, Sz.view]
theorem cn1 (k i : Int) (th : Ty) (a : Tm) (g : List Ty) (hsh : (Tm.mk k i th [a]).shape = true) (k1 : k ≠ 1) (k2 : k ≠ 2) (hg : ∀ x ∈ g, x.err = 0) (ia : CT a g) : CT (Tm.mk k i th [a]) g := by
  have hinf := Tm.inf_eq g (Tm.mk k i th [a])
  simp only [Tm.kind_mk, Tm.ty_mk, Tm.args_mk, k1, k2, if_false] at hinf
  have ga := Tm.inf_good a g (shape_args hsh a (by simp)) hg
  have hnode : (a.inf g).2 = 0 → PC E 106 [.agg (Tm.mk k i th [a]).view, .agg (pad3 [(a.inf g).1])] (.tup [.agg (ofT (rule k th [(a.inf g).1]).1).view, .i (rule k th [(a.inf g).1]).2]) := fun ha => node_c (Tm.mk k i th [a]) [(a.inf g).1] hsh k1 k2 rfl (by intro x hx; simp at hx; subst hx; exact ga ha)
  refine AC.mk Tryz.func70 rfl rfl rfl rfl rfl (Nat.le_of_ble_eq_true rfl) ?_
  repeat' (first | ((with_reducible refine D.nil ?_); refine AX.nilL ?_) | ((with_reducible refine D.load ?_); refine L.ldb U U U U U U ?_) | ((with_reducible refine D.move ?_); refine L.mv U U U ?_) | ((with_reducible refine D.fieldAddr ?_); refine L.fab U U U U U ?_) | ((with_reducible refine D.assign ?_); refine L.asg U U U ?_) | ((with_reducible refine D.bin ?_); refine L.bn U U U U U ?_) | ((with_reducible refine D.call ?_); refine L.lnt U U U U ?_) | ((with_reducible refine D.box ?_); refine L.bx U U U U ?_) | ((with_reducible refine D.alloc ?_); refine L.al U U U ?_) | ((with_reducible refine D.store ?_); refine L.st U U U U U U U U U ?_) | ((with_reducible refine D.ax ?_); refine L.bd U U U U U ?_) | ((with_reducible refine D.aw ?_); first | refine K.sq (AW.regL ?_) | refine K.sq (K.sq ?_) | refine AW.regL ?_ | refine AW.condS U (fun h => ?_) (fun h => ?_) | refine AW.skip ?_ | refine AW.ret ?_) | with_reducible refine K.tN ?_ | with_reducible refine K.tR ?_ | with_reducible refine K.r1 (by with_unfolding_all rfl) (by with_unfolding_all rfl) ?_)
  all_goals first
    | (exfalso; simp_all; done)
    | skip
  refine AW.range 1 (fun m => (0 < m → (a.inf g).2 = 0))
    (fun m => ([(0, .s .sz (g.map ofT)), (3, .ptr 0 0), (4, .ptr 1 0), (9, .ptr 2 0), (65, .s .tm [a]), (66, .i ((1 : Nat) : Int)), (67, .i m)], ⟨3, [(0, .var (Tm.mk k i th [a]).view), (1, .var [.i 0, .slice .nil (.t .ty []), .i 0]), (2, .var (if m = 0 then pad3 [] else pad3 [(a.inf g).1]))]⟩))
    (by omega) (fun m => rfl) (fun m => rfl) U (by simp) (Weak.mk [some 0, some 1, some 2] _ _ _ U U U U (by (repeat' (first | exact trivial | refine And.intro ?_ ?_ | refine ⟨_, U, _, U, ?_⟩ | exact VLe.refl _)); done) (by (repeat' (first | exact trivial | refine And.intro ?_ ?_ | refine ⟨_, U, _, U, _, U, ?_⟩ | exact VLe.refl _ | exact VLe.any _ _)); done)) ?_ ?_
  · intro m hm hP
    obtain rfl : m = 0 := by omega
    repeat' (first | ((with_reducible refine D.nil ?_); refine AX.nilL ?_) | ((with_reducible refine D.load ?_); first | refine L.ldb U U U U U U ?_ | refine L.lda U U U U U ?_) | ((with_reducible refine D.move ?_); refine L.mv U U U ?_) | ((with_reducible refine D.assign ?_); refine L.asg U U U ?_) | ((with_reducible refine D.bin ?_); refine L.bn U U U U U ?_) | ((with_reducible refine D.call ?_); refine L.c2 (ia) U U U U ?_) | ((with_reducible refine D.extract ?_); refine L.ex U U U U ?_) | ((with_reducible refine D.alloc ?_); refine L.al U U U ?_) | ((with_reducible refine D.store ?_); refine L.st U U U U U U U U U ?_) | ((with_reducible refine D.indexAddr ?_); first | refine L.ixt _ U U U U U U U (by assumption) ?_ | refine L.ixb 0 U U U U U (by decide) U ?_) | ((with_reducible refine D.ax ?_); refine L.bd U U U U U ?_) | ((with_reducible refine D.aw ?_); first | refine K.sq (AW.regL ?_) | refine K.sq (K.sq ?_) | refine AW.regL ?_ | refine AW.condS U (fun h => ?_) (fun h => ?_) | refine AW.skip ?_ | refine AW.ret ?_) | with_reducible refine K.tN ?_ | with_reducible refine K.bN ?_ | with_reducible refine K.tR ?_ | with_reducible refine K.bR ?_ | with_reducible refine K.gR ?_ | with_reducible refine K.r1 (by with_unfolding_all rfl) (by with_unfolding_all rfl) ?_)
    · have h' : (a.inf g).2 ≠ 0 := by simpa using h
      have er : (Tm.mk k i th [a]).inf g = (noTy, (a.inf g).2) := by rw [hinf]; simp [Tm.infs, h']
      rw [er]; rfl
    · have h' : (a.inf g).2 = 0 := by simpa using h
      exact ⟨rfl, fun _ => h', (Weak.mk [some 0, some 1, some 2] _ _ _ U U U U (by (repeat' (first | exact trivial | refine And.intro ?_ ?_ | refine ⟨_, U, _, U, ?_⟩ | exact VLe.refl _)); done) (by (repeat' (first | exact trivial | refine And.intro ?_ ?_ | refine ⟨_, U, _, U, _, U, ?_⟩ | exact VLe.refl _)); done))⟩
  · intro hP
    have za : (a.inf g).2 = 0 := by have := hP; simp_all
    have er : (Tm.mk k i th [a]).inf g = rule k th [(a.inf g).1] := by rw [hinf]; simp [Tm.infs, za]
    have hnode := hnode za
    repeat' (first | ((with_reducible refine D.nil ?_); refine AX.nilL ?_) | ((with_reducible refine D.load ?_); refine L.ldb U U U U U U ?_) | ((with_reducible refine D.assign ?_); refine L.asg U U U ?_) | ((with_reducible refine D.call ?_); refine L.c2 (hnode) U U U U ?_) | ((with_reducible refine D.extract ?_); refine L.ex U U U U ?_) | ((with_reducible refine D.store ?_); refine L.st U U U U U U U U U ?_) | ((with_reducible refine D.aw ?_); first | refine K.sq (AW.regL ?_) | refine AW.ret ?_) | with_reducible refine K.tN ?_ | with_reducible refine K.r1 (by with_unfolding_all rfl) (by with_unfolding_all rfl) ?_)
    rw [er]
    simp [tupV, V.wk, V.wks, constV, Sz.view]
theorem cn2 (k i : Int) (th : Ty) (a : Tm) (b : Tm) (g : List Ty) (hsh : (Tm.mk k i th [a, b]).shape = true) (k1 : k ≠ 1) (k2 : k ≠ 2) (hg : ∀ x ∈ g, x.err = 0) (ia : CT a g) (ib : CT b g) : CT (Tm.mk k i th [a, b]) g := by
  have hinf := Tm.inf_eq g (Tm.mk k i th [a, b])
  simp only [Tm.kind_mk, Tm.ty_mk, Tm.args_mk, k1, k2, if_false] at hinf
  have ga := Tm.inf_good a g (shape_args hsh a (by simp)) hg
  have gb := Tm.inf_good b g (shape_args hsh b (by simp)) hg
  have hnode : (a.inf g).2 = 0 → (b.inf g).2 = 0 → PC E 106 [.agg (Tm.mk k i th [a, b]).view, .agg (pad3 [(a.inf g).1, (b.inf g).1])] (.tup [.agg (ofT (rule k th [(a.inf g).1, (b.inf g).1]).1).view, .i (rule k th [(a.inf g).1, (b.inf g).1]).2]) := fun ha hb => node_c (Tm.mk k i th [a, b]) [(a.inf g).1, (b.inf g).1] hsh k1 k2 rfl (by intro x hx; simp at hx; rcases hx with rfl | rfl <;> first | exact ga ha | exact gb hb)
  refine AC.mk Tryz.func70 rfl rfl rfl rfl rfl (Nat.le_of_ble_eq_true rfl) ?_
  repeat' (first | ((with_reducible refine D.nil ?_); refine AX.nilL ?_) | ((with_reducible refine D.load ?_); refine L.ldb U U U U U U ?_) | ((with_reducible refine D.move ?_); refine L.mv U U U ?_) | ((with_reducible refine D.fieldAddr ?_); refine L.fab U U U U U ?_) | ((with_reducible refine D.assign ?_); refine L.asg U U U ?_) | ((with_reducible refine D.bin ?_); refine L.bn U U U U U ?_) | ((with_reducible refine D.call ?_); refine L.lnt U U U U ?_) | ((with_reducible refine D.box ?_); refine L.bx U U U U ?_) | ((with_reducible refine D.alloc ?_); refine L.al U U U ?_) | ((with_reducible refine D.store ?_); refine L.st U U U U U U U U U ?_) | ((with_reducible refine D.ax ?_); refine L.bd U U U U U ?_) | ((with_reducible refine D.aw ?_); first | refine K.sq (AW.regL ?_) | refine K.sq (K.sq ?_) | refine AW.regL ?_ | refine AW.condS U (fun h => ?_) (fun h => ?_) | refine AW.skip ?_ | refine AW.ret ?_) | with_reducible refine K.tN ?_ | with_reducible refine K.tR ?_ | with_reducible refine K.r1 (by with_unfolding_all rfl) (by with_unfolding_all rfl) ?_)
  all_goals first
    | (exfalso; simp_all; done)
    | skip
  refine AW.range 2 (fun m => (0 < m → (a.inf g).2 = 0) ∧ (1 < m → (b.inf g).2 = 0))
    (fun m => ([(0, .s .sz (g.map ofT)), (3, .ptr 0 0), (4, .ptr 1 0), (9, .ptr 2 0), (65, .s .tm [a, b]), (66, .i ((2 : Nat) : Int)), (67, .i m)], ⟨3, [(0, .var (Tm.mk k i th [a, b]).view), (1, .var [.i 0, .slice .nil (.t .ty []), .i 0]), (2, .var (if m = 0 then pad3 [] else if m = 1 then pad3 [(a.inf g).1] else pad3 [(a.inf g).1, (b.inf g).1]))]⟩))
    (by omega) (fun m => rfl) (fun m => rfl) U (by simp) (Weak.mk [some 0, some 1, some 2] _ _ _ U U U U (by (repeat' (first | exact trivial | refine And.intro ?_ ?_ | refine ⟨_, U, _, U, ?_⟩ | exact VLe.refl _)); done) (by (repeat' (first | exact trivial | refine And.intro ?_ ?_ | refine ⟨_, U, _, U, _, U, ?_⟩ | exact VLe.refl _ | exact VLe.any _ _)); done)) ?_ ?_
  · intro m hm hP
    by_cases hm0 : m = 0
    · subst hm0
      repeat' (first | ((with_reducible refine D.nil ?_); refine AX.nilL ?_) | ((with_reducible refine D.load ?_); first | refine L.ldb U U U U U U ?_ | refine L.lda U U U U U ?_) | ((with_reducible refine D.move ?_); refine L.mv U U U ?_) | ((with_reducible refine D.assign ?_); refine L.asg U U U ?_) | ((with_reducible refine D.bin ?_); refine L.bn U U U U U ?_) | ((with_reducible refine D.call ?_); refine L.c2 (ia) U U U U ?_) | ((with_reducible refine D.extract ?_); refine L.ex U U U U ?_) | ((with_reducible refine D.alloc ?_); refine L.al U U U ?_) | ((with_reducible refine D.store ?_); refine L.st U U U U U U U U U ?_) | ((with_reducible refine D.indexAddr ?_); first | refine L.ixt _ U U U U U U U (by assumption) ?_ | refine L.ixb 0 U U U U U (by decide) U ?_) | ((with_reducible refine D.ax ?_); refine L.bd U U U U U ?_) | ((with_reducible refine D.aw ?_); first | refine K.sq (AW.regL ?_) | refine K.sq (K.sq ?_) | refine AW.regL ?_ | refine AW.condS U (fun h => ?_) (fun h => ?_) | refine AW.skip ?_ | refine AW.ret ?_) | with_reducible refine K.tN ?_ | with_reducible refine K.bN ?_ | with_reducible refine K.tR ?_ | with_reducible refine K.bR ?_ | with_reducible refine K.gR ?_ | with_reducible refine K.r1 (by with_unfolding_all rfl) (by with_unfolding_all rfl) ?_)
      · have h' : (a.inf g).2 ≠ 0 := by simpa using h
        have er : (Tm.mk k i th [a, b]).inf g = (noTy, (a.inf g).2) := by rw [hinf]; simp [Tm.infs, h']
        rw [er]; rfl
      · have h' : (a.inf g).2 = 0 := by simpa using h
        exact ⟨rfl, ⟨by intro _; first | exact h' | (have := hP; simp_all), by omega⟩, (Weak.mk [some 0, some 1, some 2] _ _ _ U U U U (by (repeat' (first | exact trivial | refine And.intro ?_ ?_ | refine ⟨_, U, _, U, ?_⟩ | exact VLe.refl _)); done) (by (repeat' (first | exact trivial | refine And.intro ?_ ?_ | refine ⟨_, U, _, U, _, U, ?_⟩ | exact VLe.refl _)); done))⟩
    obtain rfl : m = 1 := by omega
    repeat' (first | ((with_reducible refine D.nil ?_); refine AX.nilL ?_) | ((with_reducible refine D.load ?_); first | refine L.ldb U U U U U U ?_ | refine L.lda U U U U U ?_) | ((with_reducible refine D.move ?_); refine L.mv U U U ?_) | ((with_reducible refine D.assign ?_); refine L.asg U U U ?_) | ((with_reducible refine D.bin ?_); refine L.bn U U U U U ?_) | ((with_reducible refine D.call ?_); refine L.c2 (ib) U U U U ?_) | ((with_reducible refine D.extract ?_); refine L.ex U U U U ?_) | ((with_reducible refine D.alloc ?_); refine L.al U U U ?_) | ((with_reducible refine D.store ?_); refine L.st U U U U U U U U U ?_) | ((with_reducible refine D.indexAddr ?_); first | refine L.ixt _ U U U U U U U (by assumption) ?_ | refine L.ixb 1 U U U U U (by decide) U ?_) | ((with_reducible refine D.ax ?_); refine L.bd U U U U U ?_) | ((with_reducible refine D.aw ?_); first | refine K.sq (AW.regL ?_) | refine K.sq (K.sq ?_) | refine AW.regL ?_ | refine AW.condS U (fun h => ?_) (fun h => ?_) | refine AW.skip ?_ | refine AW.ret ?_) | with_reducible refine K.tN ?_ | with_reducible refine K.bN ?_ | with_reducible refine K.tR ?_ | with_reducible refine K.bR ?_ | with_reducible refine K.gR ?_ | with_reducible refine K.r1 (by with_unfolding_all rfl) (by with_unfolding_all rfl) ?_)
    · have h' : (b.inf g).2 ≠ 0 := by simpa using h
      have za : (a.inf g).2 = 0 := by have := hP; simp_all
      have er : (Tm.mk k i th [a, b]).inf g = (noTy, (b.inf g).2) := by rw [hinf]; simp [Tm.infs, h', za]
      rw [er]; rfl
    · have h' : (b.inf g).2 = 0 := by simpa using h
      exact ⟨rfl, ⟨by intro _; first | exact h' | (have := hP; simp_all), by intro _; first | exact h' | (have := hP; simp_all)⟩, (Weak.mk [some 0, some 1, some 2] _ _ _ U U U U (by (repeat' (first | exact trivial | refine And.intro ?_ ?_ | refine ⟨_, U, _, U, ?_⟩ | exact VLe.refl _)); done) (by (repeat' (first | exact trivial | refine And.intro ?_ ?_ | refine ⟨_, U, _, U, _, U, ?_⟩ | exact VLe.refl _)); done))⟩
  · intro hP
    have za : (a.inf g).2 = 0 := by have := hP; simp_all
    have zb : (b.inf g).2 = 0 := by have := hP; simp_all
    have er : (Tm.mk k i th [a, b]).inf g = rule k th [(a.inf g).1, (b.inf g).1] := by rw [hinf]; simp [Tm.infs, za, zb]
    have hnode := hnode za zb
    repeat' (first | ((with_reducible refine D.nil ?_); refine AX.nilL ?_) | ((with_reducible refine D.load ?_); refine L.ldb U U U U U U ?_) | ((with_reducible refine D.assign ?_); refine L.asg U U U ?_) | ((with_reducible refine D.call ?_); refine L.c2 (hnode) U U U U ?_) | ((with_reducible refine D.extract ?_); refine L.ex U U U U ?_) | ((with_reducible refine D.store ?_); refine L.st U U U U U U U U U ?_) | ((with_reducible refine D.aw ?_); first | refine K.sq (AW.regL ?_) | refine AW.ret ?_) | with_reducible refine K.tN ?_ | with_reducible refine K.r1 (by with_unfolding_all rfl) (by with_unfolding_all rfl) ?_)
    rw [er]
    simp [tupV, V.wk, V.wks, constV, Sz.view]
theorem cn3 (k i : Int) (th : Ty) (a : Tm) (b : Tm) (c : Tm) (g : List Ty) (hsh : (Tm.mk k i th [a, b, c]).shape = true) (k1 : k ≠ 1) (k2 : k ≠ 2) (hg : ∀ x ∈ g, x.err = 0) (ia : CT a g) (ib : CT b g) (ic : CT c g) : CT (Tm.mk k i th [a, b, c]) g := by
  have hinf := Tm.inf_eq g (Tm.mk k i th [a, b, c])
  simp only [Tm.kind_mk, Tm.ty_mk, Tm.args_mk, k1, k2, if_false] at hinf
  have ga := Tm.inf_good a g (shape_args hsh a (by simp)) hg
  have gb := Tm.inf_good b g (shape_args hsh b (by simp)) hg
  have gc := Tm.inf_good c g (shape_args hsh c (by simp)) hg
  have hnode : (a.inf g).2 = 0 → (b.inf g).2 = 0 → (c.inf g).2 = 0 → PC E 106 [.agg (Tm.mk k i th [a, b, c]).view, .agg (pad3 [(a.inf g).1, (b.inf g).1, (c.inf g).1])] (.tup [.agg (ofT (rule k th [(a.inf g).1, (b.inf g).1, (c.inf g).1]).1).view, .i (rule k th [(a.inf g).1, (b.inf g).1, (c.inf g).1]).2]) := fun ha hb hc => node_c (Tm.mk k i th [a, b, c]) [(a.inf g).1, (b.inf g).1, (c.inf g).1] hsh k1 k2 rfl (by intro x hx; simp at hx; rcases hx with rfl | rfl | rfl <;> first | exact ga ha | exact gb hb | exact gc hc)
  refine AC.mk Tryz.func70 rfl rfl rfl rfl rfl (Nat.le_of_ble_eq_true rfl) ?_
  repeat' (first | ((with_reducible refine D.nil ?_); refine AX.nilL ?_) | ((with_reducible refine D.load ?_); refine L.ldb U U U U U U ?_) | ((with_reducible refine D.move ?_); refine L.mv U U U ?_) | ((with_reducible refine D.fieldAddr ?_); refine L.fab U U U U U ?_) | ((with_reducible refine D.assign ?_); refine L.asg U U U ?_) | ((with_reducible refine D.bin ?_); refine L.bn U U U U U ?_) | ((with_reducible refine D.call ?_); refine L.lnt U U U U ?_) | ((with_reducible refine D.box ?_); refine L.bx U U U U ?_) | ((with_reducible refine D.alloc ?_); refine L.al U U U ?_) | ((with_reducible refine D.store ?_); refine L.st U U U U U U U U U ?_) | ((with_reducible refine D.ax ?_); refine L.bd U U U U U ?_) | ((with_reducible refine D.aw ?_); first | refine K.sq (AW.regL ?_) | refine K.sq (K.sq ?_) | refine AW.regL ?_ | refine AW.condS U (fun h => ?_) (fun h => ?_) | refine AW.skip ?_ | refine AW.ret ?_) | with_reducible refine K.tN ?_ | with_reducible refine K.tR ?_ | with_reducible refine K.r1 (by with_unfolding_all rfl) (by with_unfolding_all rfl) ?_)
  all_goals first
    | (exfalso; simp_all; done)
    | skip
  refine AW.range 3 (fun m => (0 < m → (a.inf g).2 = 0) ∧ (1 < m → (b.inf g).2 = 0) ∧ (2 < m → (c.inf g).2 = 0))
    (fun m => ([(0, .s .sz (g.map ofT)), (3, .ptr 0 0), (4, .ptr 1 0), (9, .ptr 2 0), (65, .s .tm [a, b, c]), (66, .i ((3 : Nat) : Int)), (67, .i m)], ⟨3, [(0, .var (Tm.mk k i th [a, b, c]).view), (1, .var [.i 0, .slice .nil (.t .ty []), .i 0]), (2, .var (if m = 0 then pad3 [] else if m = 1 then pad3 [(a.inf g).1] else if m = 2 then pad3 [(a.inf g).1, (b.inf g).1] else pad3 [(a.inf g).1, (b.inf g).1, (c.inf g).1]))]⟩))
    (by omega) (fun m => rfl) (fun m => rfl) U (by simp) (Weak.mk [some 0, some 1, some 2] _ _ _ U U U U (by (repeat' (first | exact trivial | refine And.intro ?_ ?_ | refine ⟨_, U, _, U, ?_⟩ | exact VLe.refl _)); done) (by (repeat' (first | exact trivial | refine And.intro ?_ ?_ | refine ⟨_, U, _, U, _, U, ?_⟩ | exact VLe.refl _ | exact VLe.any _ _)); done)) ?_ ?_
  · intro m hm hP
    by_cases hm0 : m = 0
    · subst hm0
      repeat' (first | ((with_reducible refine D.nil ?_); refine AX.nilL ?_) | ((with_reducible refine D.load ?_); first | refine L.ldb U U U U U U ?_ | refine L.lda U U U U U ?_) | ((with_reducible refine D.move ?_); refine L.mv U U U ?_) | ((with_reducible refine D.assign ?_); refine L.asg U U U ?_) | ((with_reducible refine D.bin ?_); refine L.bn U U U U U ?_) | ((with_reducible refine D.call ?_); refine L.c2 (ia) U U U U ?_) | ((with_reducible refine D.extract ?_); refine L.ex U U U U ?_) | ((with_reducible refine D.alloc ?_); refine L.al U U U ?_) | ((with_reducible refine D.store ?_); refine L.st U U U U U U U U U ?_) | ((with_reducible refine D.indexAddr ?_); first | refine L.ixt _ U U U U U U U (by assumption) ?_ | refine L.ixb 0 U U U U U (by decide) U ?_) | ((with_reducible refine D.ax ?_); refine L.bd U U U U U ?_) | ((with_reducible refine D.aw ?_); first | refine K.sq (AW.regL ?_) | refine K.sq (K.sq ?_) | refine AW.regL ?_ | refine AW.condS U (fun h => ?_) (fun h => ?_) | refine AW.skip ?_ | refine AW.ret ?_) | with_reducible refine K.tN ?_ | with_reducible refine K.bN ?_ | with_reducible refine K.tR ?_ | with_reducible refine K.bR ?_ | with_reducible refine K.gR ?_ | with_reducible refine K.r1 (by with_unfolding_all rfl) (by with_unfolding_all rfl) ?_)
      · have h' : (a.inf g).2 ≠ 0 := by simpa using h
        have er : (Tm.mk k i th [a, b, c]).inf g = (noTy, (a.inf g).2) := by rw [hinf]; simp [Tm.infs, h']
        rw [er]; rfl
      · have h' : (a.inf g).2 = 0 := by simpa using h
        exact ⟨rfl, ⟨by intro _; first | exact h' | (have := hP; simp_all), by omega, by omega⟩, (Weak.mk [some 0, some 1, some 2] _ _ _ U U U U (by (repeat' (first | exact trivial | refine And.intro ?_ ?_ | refine ⟨_, U, _, U, ?_⟩ | exact VLe.refl _)); done) (by (repeat' (first | exact trivial | refine And.intro ?_ ?_ | refine ⟨_, U, _, U, _, U, ?_⟩ | exact VLe.refl _)); done))⟩
    by_cases hm1 : m = 1
    · subst hm1
      repeat' (first | ((with_reducible refine D.nil ?_); refine AX.nilL ?_) | ((with_reducible refine D.load ?_); first | refine L.ldb U U U U U U ?_ | refine L.lda U U U U U ?_) | ((with_reducible refine D.move ?_); refine L.mv U U U ?_) | ((with_reducible refine D.assign ?_); refine L.asg U U U ?_) | ((with_reducible refine D.bin ?_); refine L.bn U U U U U ?_) | ((with_reducible refine D.call ?_); refine L.c2 (ib) U U U U ?_) | ((with_reducible refine D.extract ?_); refine L.ex U U U U ?_) | ((with_reducible refine D.alloc ?_); refine L.al U U U ?_) | ((with_reducible refine D.store ?_); refine L.st U U U U U U U U U ?_) | ((with_reducible refine D.indexAddr ?_); first | refine L.ixt _ U U U U U U U (by assumption) ?_ | refine L.ixb 1 U U U U U (by decide) U ?_) | ((with_reducible refine D.ax ?_); refine L.bd U U U U U ?_) | ((with_reducible refine D.aw ?_); first | refine K.sq (AW.regL ?_) | refine K.sq (K.sq ?_) | refine AW.regL ?_ | refine AW.condS U (fun h => ?_) (fun h => ?_) | refine AW.skip ?_ | refine AW.ret ?_) | with_reducible refine K.tN ?_ | with_reducible refine K.bN ?_ | with_reducible refine K.tR ?_ | with_reducible refine K.bR ?_ | with_reducible refine K.gR ?_ | with_reducible refine K.r1 (by with_unfolding_all rfl) (by with_unfolding_all rfl) ?_)
      · have h' : (b.inf g).2 ≠ 0 := by simpa using h
        have za : (a.inf g).2 = 0 := by have := hP; simp_all
        have er : (Tm.mk k i th [a, b, c]).inf g = (noTy, (b.inf g).2) := by rw [hinf]; simp [Tm.infs, h', za]
        rw [er]; rfl
      · have h' : (b.inf g).2 = 0 := by simpa using h
        exact ⟨rfl, ⟨by intro _; first | exact h' | (have := hP; simp_all), by intro _; first | exact h' | (have := hP; simp_all), by omega⟩, (Weak.mk [some 0, some 1, some 2] _ _ _ U U U U (by (repeat' (first | exact trivial | refine And.intro ?_ ?_ | refine ⟨_, U, _, U, ?_⟩ | exact VLe.refl _)); done) (by (repeat' (first | exact trivial | refine And.intro ?_ ?_ | refine ⟨_, U, _, U, _, U, ?_⟩ | exact VLe.refl _)); done))⟩
    obtain rfl : m = 2 := by omega
    repeat' (first | ((with_reducible refine D.nil ?_); refine AX.nilL ?_) | ((with_reducible refine D.load ?_); first | refine L.ldb U U U U U U ?_ | refine L.lda U U U U U ?_) | ((with_reducible refine D.move ?_); refine L.mv U U U ?_) | ((with_reducible refine D.assign ?_); refine L.asg U U U ?_) | ((with_reducible refine D.bin ?_); refine L.bn U U U U U ?_) | ((with_reducible refine D.call ?_); refine L.c2 (ic) U U U U ?_) | ((with_reducible refine D.extract ?_); refine L.ex U U U U ?_) | ((with_reducible refine D.alloc ?_); refine L.al U U U ?_) | ((with_reducible refine D.store ?_); refine L.st U U U U U U U U U ?_) | ((with_reducible refine D.indexAddr ?_); first | refine L.ixt _ U U U U U U U (by assumption) ?_ | refine L.ixb 2 U U U U U (by decide) U ?_) | ((with_reducible refine D.ax ?_); refine L.bd U U U U U ?_) | ((with_reducible refine D.aw ?_); first | refine K.sq (AW.regL ?_) | refine K.sq (K.sq ?_) | refine AW.regL ?_ | refine AW.condS U (fun h => ?_) (fun h => ?_) | refine AW.skip ?_ | refine AW.ret ?_) | with_reducible refine K.tN ?_ | with_reducible refine K.bN ?_ | with_reducible refine K.tR ?_ | with_reducible refine K.bR ?_ | with_reducible refine K.gR ?_ | with_reducible refine K.r1 (by with_unfolding_all rfl) (by with_unfolding_all rfl) ?_)
    · have h' : (c.inf g).2 ≠ 0 := by simpa using h
      have za : (a.inf g).2 = 0 := by have := hP; simp_all
      have zb : (b.inf g).2 = 0 := by have := hP; simp_all
      have er : (Tm.mk k i th [a, b, c]).inf g = (noTy, (c.inf g).2) := by rw [hinf]; simp [Tm.infs, h', za, zb]
      rw [er]; rfl
    · have h' : (c.inf g).2 = 0 := by simpa using h
      exact ⟨rfl, ⟨by intro _; first | exact h' | (have := hP; simp_all), by intro _; first | exact h' | (have := hP; simp_all), by intro _; first | exact h' | (have := hP; simp_all)⟩, (Weak.mk [some 0, some 1, some 2] _ _ _ U U U U (by (repeat' (first | exact trivial | refine And.intro ?_ ?_ | refine ⟨_, U, _, U, ?_⟩ | exact VLe.refl _)); done) (by (repeat' (first | exact trivial | refine And.intro ?_ ?_ | refine ⟨_, U, _, U, _, U, ?_⟩ | exact VLe.refl _)); done))⟩
  · intro hP
    have za : (a.inf g).2 = 0 := by have := hP; simp_all
    have zb : (b.inf g).2 = 0 := by have := hP; simp_all
    have zc : (c.inf g).2 = 0 := by have := hP; simp_all
    have er : (Tm.mk k i th [a, b, c]).inf g = rule k th [(a.inf g).1, (b.inf g).1, (c.inf g).1] := by rw [hinf]; simp [Tm.infs, za, zb, zc]
    have hnode := hnode za zb zc
    repeat' (first | ((with_reducible refine D.nil ?_); refine AX.nilL ?_) | ((with_reducible refine D.load ?_); refine L.ldb U U U U U U ?_) | ((with_reducible refine D.assign ?_); refine L.asg U U U ?_) | ((with_reducible refine D.call ?_); refine L.c2 (hnode) U U U U ?_) | ((with_reducible refine D.extract ?_); refine L.ex U U U U ?_) | ((with_reducible refine D.store ?_); refine L.st U U U U U U U U U ?_) | ((with_reducible refine D.aw ?_); first | refine K.sq (AW.regL ?_) | refine AW.ret ?_) | with_reducible refine K.tN ?_ | with_reducible refine K.r1 (by with_unfolding_all rfl) (by with_unfolding_all rfl) ?_)
    rw [er]
    simp [tupV, V.wk, V.wks, constV, Sz.view]
theorem ctypeOf_c : ∀ (n : Nat) (t : Tm) (g : List Ty), t.full ≤ n → t.shape = true → (∀ x ∈ g, x.err = 0) → g.length + n < 274877906944 → CT t g := by
  intro n
  induction n with
  | zero => intro t g h; have := t.full_pos; omega
  | succ n ih =>
  intro t g hsz hsh hg hgn
  have hsz' := Tm.full_eq t
  have hak := arK_len hsh
  have hargs := shape_args hsh
  by_cases k1 : t.kind = 1
  · exact ct1 t g hsh (by omega) k1
  have hih : ∀ x ∈ t.args, ∀ g' : List Ty, (∀ y ∈ g', y.err = 0) → g'.length + n < 274877906944 → CT x g' := fun x hx g' hg' hl => ih x g' (by have := lsum_mem Tm.full hx; omega) (hargs x hx) hg' hl
  have hth : typedK t.kind = true → t.ty.err = 0 := shape_ty hsh
  clear hsz hsz' ih
  obtain ⟨k, i, th, xs⟩ := t
  simp only [Tm.kind_mk, Tm.args_mk, Tm.ty_mk] at *
  by_cases k2 : k = 2
  · subst k2
    obtain ⟨a, rfl⟩ := len_1 (Option.some.inj hak).symm
    refine ct2 i th a g hsh hg (by omega) (hih a (by simp) (g ++ [th]) ?_ (by simp; omega))
    intro x hx
    rcases List.mem_append.1 hx with hx | hx
    · exact hg x hx
    · simp at hx; subst hx; exact hth rfl
  · have hx : ∀ x ∈ xs, CT x g := fun x hx => hih x hx g hg (by omega)
    rcases arK_cases hak with ⟨hn, hk⟩ | ⟨hn, hk⟩ | ⟨hn, hk⟩ | ⟨hn, hk⟩
    · have hL := List.eq_nil_of_length_eq_zero hn
      subst hL
      exact cn0 k i th g hsh k1 k2 hg
    · obtain ⟨a, rfl⟩ := len_1 hn
      exact cn1 k i th a g hsh k1 k2 hg (hx a (by simp))
    · obtain ⟨a, b, rfl⟩ := len_2 hn
      exact cn2 k i th a b g hsh k1 k2 hg (hx a (by simp)) (hx b (by simp))
    · obtain ⟨a, b, c, rfl⟩ := len_3 hn
      exact cn3 k i th a b c g hsh k1 k2 hg (hx a (by simp)) (hx b (by simp)) (hx c (by simp))
end Go.Ab
namespace Go.Ab
open Go Go.Proofs
set_option maxRecDepth 100000
set_option maxHeartbeats 4000000
set_option linter.all false
theorem termsTypeOf_c (g : List Ty) (t : Tm) (ht : t.full < 137438953472) (hg : (g.map Ty.size).sum < 1099511627776) : PC E 29 [.s .ty g, .agg t.view] (.tup [.agg (typeOf g t).1.view, .i (typeOf g t).2]) := by
  have h1 := context2_c g hg
  have h2 := check_c t (by omega)
  have h3 := from_c g hg
  by_cases hc : ctxErr g = 0
  case neg =>
    have e : typeOf g t = (noTy, ctxErr g) := if_pos hc
    rw [e]
    refine AC.mk Tryz.func29 rfl rfl rfl rfl rfl (Nat.le_of_ble_eq_true rfl) ?_
    repeat' (first | ((with_reducible refine D.nil ?_); refine AX.nilL ?_) | ((with_reducible refine D.load ?_); refine L.ldb U U U U U U ?_) | ((with_reducible refine D.move ?_); refine L.mv U U U ?_) | ((with_reducible refine D.assign ?_); refine L.asg U U U ?_) | ((with_reducible refine D.bin ?_); refine L.bn U U U U U ?_) | ((with_reducible refine D.call ?_); refine L.c2 (h1) U U U U ?_) | ((with_reducible refine D.box ?_); refine L.bx U U U U ?_) | ((with_reducible refine D.alloc ?_); refine L.al U U U ?_) | ((with_reducible refine D.store ?_); refine L.st U U U U U U U U U ?_) | ((with_reducible refine D.ax ?_); refine L.bd U U U U U ?_) | ((with_reducible refine D.aw ?_); first | refine K.sq (AW.regL ?_) | refine K.sq (K.sq ?_) | refine AW.regL ?_ | refine AW.condS U (fun h => ?_) (fun h => ?_) | refine AW.skip ?_ | refine AW.ret ?_) | with_reducible refine K.tN ?_ | with_reducible refine K.tR ?_ | with_reducible refine K.r1 (by with_unfolding_all rfl) (by with_unfolding_all rfl) ?_)
    · rfl
    · exfalso; simp_all; done
  by_cases he : t.err = 0
  case neg =>
    have e : typeOf g t = (noTy, t.err) := by unfold typeOf typed; rw [if_neg (by simp [hc]), if_pos he]
    rw [e]; rw [hc] at h1
    refine AC.mk Tryz.func29 rfl rfl rfl rfl rfl (Nat.le_of_ble_eq_true rfl) ?_
    repeat' (first | ((with_reducible refine D.nil ?_); refine AX.nilL ?_) | ((with_reducible refine D.load ?_); refine L.ldb U U U U U U ?_) | ((with_reducible refine D.move ?_); refine L.mv U U U ?_) | ((with_reducible refine D.assign ?_); refine L.asg U U U ?_) | ((with_reducible refine D.bin ?_); refine L.bn U U U U U ?_) | ((with_reducible refine D.call ?_); first | refine L.c2 (h1) U U U U ?_ | refine L.c2 (h2) U U U U ?_) | ((with_reducible refine D.box ?_); refine L.bx U U U U ?_) | ((with_reducible refine D.alloc ?_); refine L.al U U U ?_) | ((with_reducible refine D.store ?_); refine L.st U U U U U U U U U ?_) | ((with_reducible refine D.ax ?_); refine L.bd U U U U U ?_) | ((with_reducible refine D.aw ?_); first | refine K.sq (AW.regL ?_) | refine K.sq (AW.regD mixed (by kernel_rfl) ?_) | refine K.sq (K.sq ?_) | refine AW.regL ?_ | refine AW.condF U ?_ | refine AW.condS U (fun h => ?_) (fun h => ?_) | refine AW.skip ?_ | refine AW.ret ?_) | with_reducible refine K.tN ?_ | with_reducible refine K.tR ?_ | with_reducible refine K.r1 (by with_unfolding_all rfl) (by with_unfolding_all rfl) ?_)
    · rfl
    · exfalso; simp_all; done
  have h4 := ctypeOf_c _ t g (Nat.le_refl _) ((Tm.err_iff t).1 he).1 (ctxErr_all hc).2 (by have := (ctxErr_all hc).1; omega)
  have e : typeOf g t = t.inf g := by unfold typeOf typed; rw [if_neg (by simp [hc]), if_neg (by simp [he])]
  rw [e]; rw [hc] at h1; rw [he] at h2
  have hgood := Tm.inf_good t g ((Tm.err_iff t).1 he).1 (ctxErr_all hc).2
  have hno := inf_no t g
  unfold CT at h4
  generalize t.inf g = r at *
  obtain ⟨u, er⟩ := r
  dsimp only at *
  by_cases hi : er = 0
  · subst hi
    have h5 := ownTy_c _ u (Nat.le_refl _) (by have := (Ty.err_iff _).1 (hgood rfl); omega)
    refine AC.mk Tryz.func29 rfl rfl rfl rfl rfl (Nat.le_of_ble_eq_true rfl) ?_
    repeat' (first | ((with_reducible refine D.nil ?_); first | refine AX.nilL ?_ | refine AX.nilD (by kernel_rfl) ?_) | ((with_reducible refine D.load ?_); refine L.ldb U U U U U U ?_) | ((with_reducible refine D.move ?_); refine L.mv U U U ?_) | ((with_reducible refine D.fieldAddr ?_); refine L.fab U U U U U ?_) | ((with_reducible refine D.assign ?_); refine L.asg U U U ?_) | ((with_reducible refine D.bin ?_); refine L.bn U U U U U ?_) | ((with_reducible refine D.call ?_); first | refine L.c2 (h1) U U U U ?_ | refine L.c2 (h2) U U U U ?_ | refine L.c2 (h3) U U U U ?_ | refine L.c2 (h4) U U U U ?_ | refine L.c2 (h5) U U U U ?_) | ((with_reducible refine D.extract ?_); refine L.ex U U U U ?_) | ((with_reducible refine D.box ?_); refine L.bx U U U U ?_) | ((with_reducible refine D.alloc ?_); refine L.al U U U ?_) | ((with_reducible refine D.store ?_); refine L.st U U U U U U U U U ?_) | ((with_reducible refine D.aw ?_); first | refine K.sq (AW.regL ?_) | refine K.sq (AW.regD mixed (by kernel_rfl) ?_) | refine K.sq (K.sq ?_) | refine AW.regL ?_ | refine AW.condF U ?_ | refine AW.skip ?_ | refine AW.ret ?_) | with_reducible refine K.tN ?_ | with_reducible refine K.r1 (by with_unfolding_all rfl) (by with_unfolding_all rfl) ?_)
    rfl
  · obtain rfl := hno hi
    refine AC.mk Tryz.func29 rfl rfl rfl rfl rfl (Nat.le_of_ble_eq_true rfl) ?_
    repeat' (first | ((with_reducible refine D.nil ?_); first | refine AX.nilL ?_ | refine AX.nilD (by kernel_rfl) ?_) | ((with_reducible refine D.load ?_); refine L.ldb U U U U U U ?_) | ((with_reducible refine D.move ?_); refine L.mv U U U ?_) | ((with_reducible refine D.fieldAddr ?_); refine L.fab U U U U U ?_) | ((with_reducible refine D.assign ?_); refine L.asg U U U ?_) | ((with_reducible refine D.bin ?_); refine L.bn U U U U U ?_) | ((with_reducible refine D.call ?_); first | refine L.c2 (h1) U U U U ?_ | refine L.c2 (h2) U U U U ?_ | refine L.c2 (h3) U U U U ?_ | refine L.c2 (h4) U U U U ?_) | ((with_reducible refine D.extract ?_); refine L.ex U U U U ?_) | ((with_reducible refine D.box ?_); refine L.bx U U U U ?_) | ((with_reducible refine D.alloc ?_); refine L.al U U U ?_) | ((with_reducible refine D.store ?_); refine L.st U U U U U U U U U ?_) | ((with_reducible refine D.ax ?_); refine L.bd U U U U U ?_) | ((with_reducible refine D.aw ?_); first | refine K.sq (AW.regL ?_) | refine K.sq (AW.regD mixed (by kernel_rfl) ?_) | refine K.sq (K.sq ?_) | refine AW.regL ?_ | refine AW.condF U ?_ | refine AW.condS U (fun h => ?_) (fun h => ?_) | refine AW.skip ?_ | refine AW.ret ?_) | with_reducible refine K.tN ?_ | with_reducible refine K.tR ?_ | with_reducible refine K.r1 (by with_unfolding_all rfl) (by with_unfolding_all rfl) ?_)
    · rfl
    · exfalso; simp_all; done
end Go.Ab
namespace Go.Ab
open Go Go.Proofs
set_option maxRecDepth 100000
set_option maxHeartbeats 4000000
set_option linter.all false
def lamsT (b : Tm) (l : List Ty) : Tm := l.foldr lmT b
def dflS (t : Ty) : Tm := if t.err = 0 then dfl t else noTm
end Go.Ab
namespace Go.Ab
open Go Go.Proofs
set_option maxRecDepth 100000
set_option maxHeartbeats 4000000
set_option linter.all false
theorem formedEq_c (a b : Tm) : PC E 135 [.agg (eqF a b).view] (.bool true) := by
  have h1 : PC E 157 [.agg (Ty.mk 0 []).view] (.bool true) := noType_c (.mk 0 [])
  unfold eqF
  refine AC.mk Tryz.func135 rfl rfl rfl rfl rfl (Nat.le_of_ble_eq_true rfl) ?_
  repeat' (first | ((with_reducible refine D.nil ?_); refine AX.nilL ?_) | ((with_reducible refine D.load ?_); refine L.ldb U U U U U U ?_) | ((with_reducible refine D.move ?_); refine L.mv U U U ?_) | ((with_reducible refine D.fieldAddr ?_); refine L.fab U U U U U ?_) | ((with_reducible refine D.assign ?_); refine L.asg U U U ?_) | ((with_reducible refine D.bin ?_); refine L.bn U U U U U ?_) | ((with_reducible refine D.call ?_); first | refine L.lnt U U U U ?_ | refine L.c2 (h1) U U U U ?_) | ((with_reducible refine D.box ?_); refine L.bx U U U U ?_) | ((with_reducible refine D.not ?_); refine L.nt U U U ?_) | ((with_reducible refine D.pick ?_); refine L.pk U U U U ?_) | ((with_reducible refine D.aw ?_); first | ((with_reducible refine D.blk ?_); refine AW.block ?_) | refine K.sq (AW.regL ?_) | refine K.sq (K.sq ?_) | refine AW.regL ?_ | refine AW.condT U ?_ | refine AW.condF U ?_ | refine AW.skip ?_ | refine AW.ret ?_) | with_reducible refine K.tN ?_ | with_reducible refine K.bN ?_ | with_reducible refine K.r1 (by with_unfolding_all rfl) (by with_unfolding_all rfl) ?_)
  rfl
theorem nodesEq_c (a b : Tm) (ha : a.shape = true) (hb : b.shape = true) (hz : a.size + b.size ≤ 100000) : PC E 107 [.agg (eqF a b).view] (.tup [.i (1 + (a.size + b.size) : Nat), .bool true]) := by
  have h1 := formedEq_c a b
  have fa := shape_full a ha
  have fb := shape_full b hb
  have ca := termNodes_c _ a (Nat.le_refl _) (by omega)
  have cb := termNodes_c _ b (Nat.le_refl _) (by omega)
  rw [show nodesM a = .tup [.i a.size, .bool true] by simp [nodesM, Tm.nodes, ha]] at ca
  rw [show nodesM b = .tup [.i b.size, .bool true] by simp [nodesM, Tm.nodes, hb]] at cb
  unfold eqF at *
  refine AC.mk Tryz.func107 rfl rfl rfl rfl rfl (Nat.le_of_ble_eq_true rfl) ?_
  repeat' (first | ((with_reducible refine D.nil ?_); refine AX.nilL ?_) | ((with_reducible refine D.load ?_); refine L.ldb U U U U U U ?_) | ((with_reducible refine D.move ?_); refine L.mv U U U ?_) | ((with_reducible refine D.fieldAddr ?_); refine L.fab U U U U U ?_) | ((with_reducible refine D.assign ?_); refine L.asg U U U ?_) | ((with_reducible refine D.call ?_); first | refine L.lnt U U U U ?_ | refine L.c2 (h1) U U U U ?_) | ((with_reducible refine D.box ?_); refine L.bx U U U U ?_) | ((with_reducible refine D.not ?_); refine L.nt U U U ?_) | ((with_reducible refine D.aw ?_); first | refine K.sq (AW.regL ?_) | refine K.sq (K.sq ?_) | refine AW.regL ?_ | refine AW.condF U ?_ | refine AW.skip ?_) | with_reducible refine K.tN ?_)
  refine AW.range 2 (fun m => True)
    (fun m => ([(1, .ptr 0 0), (4, .i (1 + (([a, b].take m).map Tm.size).sum : Nat)), (17, .s .tm [a, b]), (18, .i 2), (19, .i m)], ⟨1, [(0, .var (Fm.mk 1 (.mk 0 []) [a, b] []).view)]⟩))
    (by omega) (fun m => rfl) (fun m => rfl) U trivial (Weak.mk [some 0] _ _ _ U U U U (by (repeat' (first | exact trivial | refine And.intro ?_ ?_ | refine ⟨_, U, _, U, ?_⟩ | exact VLe.refl _)); done) (by (repeat' (first | exact trivial | refine And.intro ?_ ?_ | refine ⟨_, U, _, U, _, U, ?_⟩ | exact VLe.refl _)); done)) ?_ ?_
  · intro m hm _
    have hm' : m = 0 ∨ m = 1 := by omega
    rcases hm' with rfl | rfl
    · have e0 : (([a, b].take 0).map Tm.size).sum = 0 := rfl
      repeat' (first | ((with_reducible refine D.nil ?_); refine AX.nilL ?_) | ((with_reducible refine D.load ?_); first | refine L.ldb U U U U U U ?_ | refine L.lda U U U U U ?_) | ((with_reducible refine D.move ?_); refine L.mv U U U ?_) | ((with_reducible refine D.assign ?_); refine L.asg U U U ?_) | ((with_reducible refine D.bin ?_); refine L.ad U U U U (by omega) ?_) | ((with_reducible refine D.call ?_); refine L.c2 (ca) U U U U ?_) | ((with_reducible refine D.extract ?_); refine L.ex U U U U ?_) | ((with_reducible refine D.alloc ?_); refine L.al U U U ?_) | ((with_reducible refine D.store ?_); refine L.st U U U U U U U U U ?_) | ((with_reducible refine D.indexAddr ?_); refine L.ixt _ U U U U U U U (by assumption) ?_) | ((with_reducible refine D.not ?_); refine L.nt U U U ?_) | ((with_reducible refine D.aw ?_); first | refine K.sq (AW.regL ?_) | refine K.sq (K.sq ?_) | refine AW.regL ?_ | refine AW.condF U ?_ | refine AW.skip ?_) | with_reducible refine K.tN ?_ | with_reducible refine K.bN ?_)
      exact ⟨rfl, trivial, (Weak.mk [some 0] _ _ _ U U U U (by (repeat' (first | exact trivial | refine And.intro ?_ ?_ | refine ⟨_, U, _, U, ?_⟩ | exact VLe.refl _)); done) (by (repeat' (first | exact trivial | refine And.intro ?_ ?_ | refine ⟨_, U, _, U, _, U, ?_⟩ | exact VLe.refl _)); done))⟩
    · have e0 : (([a, b].take 1).map Tm.size).sum = a.size := by simp
      repeat' (first | ((with_reducible refine D.nil ?_); refine AX.nilL ?_) | ((with_reducible refine D.load ?_); first | refine L.ldb U U U U U U ?_ | refine L.lda U U U U U ?_) | ((with_reducible refine D.move ?_); refine L.mv U U U ?_) | ((with_reducible refine D.assign ?_); refine L.asg U U U ?_) | ((with_reducible refine D.bin ?_); refine L.ad U U U U (by omega) ?_) | ((with_reducible refine D.call ?_); refine L.c2 (cb) U U U U ?_) | ((with_reducible refine D.extract ?_); refine L.ex U U U U ?_) | ((with_reducible refine D.alloc ?_); refine L.al U U U ?_) | ((with_reducible refine D.store ?_); refine L.st U U U U U U U U U ?_) | ((with_reducible refine D.indexAddr ?_); refine L.ixt _ U U U U U U U (by assumption) ?_) | ((with_reducible refine D.not ?_); refine L.nt U U U ?_) | ((with_reducible refine D.aw ?_); first | refine K.sq (AW.regL ?_) | refine K.sq (K.sq ?_) | refine AW.regL ?_ | refine AW.condF U ?_ | refine AW.skip ?_) | with_reducible refine K.tN ?_ | with_reducible refine K.bN ?_)
      exact ⟨rfl, trivial, (Weak.mk [some 0] _ _ _ U U U U (by (repeat' (first | exact trivial | refine And.intro ?_ ?_ | refine ⟨_, U, _, U, ?_⟩ | exact VLe.refl _ | exact VLe.of_eq (by simp [Sto.upd, Int.add_assoc]))); done) (by (repeat' (first | exact trivial | refine And.intro ?_ ?_ | refine ⟨_, U, _, U, _, U, ?_⟩ | exact VLe.refl _)); done))⟩
  · intro _
    repeat' (first | ((with_reducible refine D.nil ?_); refine AX.nilL ?_) | ((with_reducible refine D.load ?_); refine L.ldb U U U U U U ?_) | ((with_reducible refine D.move ?_); refine L.mv U U U ?_) | ((with_reducible refine D.fieldAddr ?_); refine L.fab U U U U U ?_) | ((with_reducible refine D.call ?_); refine L.lnt U U U U ?_) | ((with_reducible refine D.aw ?_); first | refine K.sq (K.sq ?_) | refine AW.regL ?_) | with_reducible refine K.tN ?_)
    refine AW.range 0 (fun m => True)
      (fun m => ([(1, .ptr 0 0), (4, .i (1 + (a.size + b.size) : Nat)), (35, .s .fm []), (36, .i 0), (37, .i m)], ⟨1, [(0, .var (Fm.mk 1 (.mk 0 []) [a, b] []).view)]⟩))
      (by omega) (fun m => rfl) (fun m => rfl) rfl trivial ?_ ?_ ?_
    · exact (Weak.mk [some 0] _ _ _ U U U U (by (repeat' (first | exact trivial | refine And.intro ?_ ?_ | refine ⟨_, U, _, U, ?_⟩ | exact VLe.refl _)); done) (by (repeat' (first | exact trivial | refine And.intro ?_ ?_ | refine ⟨_, U, _, U, _, U, ?_⟩ | exact VLe.refl _)); done))
    · intro m hm _; omega
    · intro _
      repeat' (first | ((with_reducible refine D.nil ?_); refine AX.nilL ?_) | ((with_reducible refine D.move ?_); refine L.mv U U U ?_) | ((with_reducible refine D.assign ?_); refine L.asg U U U ?_) | ((with_reducible refine D.aw ?_); first | refine K.sq (AW.regL ?_) | refine AW.ret ?_) | with_reducible refine K.tN ?_ | with_reducible refine K.r1 (by with_unfolding_all rfl) (by with_unfolding_all rfl) ?_)
      rfl
theorem checkEq_c (a b : Tm) (ha : a.shape = true) (hb : b.shape = true) (hz : a.size + b.size ≤ 4095) : PC E 31 [.agg (eqF a b).view] (.i 0) := by
  have h1 := nodesEq_c a b ha hb (by omega)
  have h2 : PC E 73 [.agg (eqF a b).view] (.tup [.i (1 + (a.size + b.size) : Nat), .i 0]) := by
    refine AC.mk Tryz.func73 rfl rfl rfl rfl rfl (Nat.le_of_ble_eq_true rfl) ?_
    repeat' (first | ((with_reducible refine D.nil ?_); refine AX.nilL ?_) | ((with_reducible refine D.load ?_); refine L.ldb U U U U U U ?_) | ((with_reducible refine D.move ?_); refine L.mv U U U ?_) | ((with_reducible refine D.assign ?_); refine L.asg U U U ?_) | ((with_reducible refine D.bin ?_); refine L.bn U U U U U ?_) | ((with_reducible refine D.call ?_); refine L.c2 (h1) U U U U ?_) | ((with_reducible refine D.extract ?_); refine L.ex U U U U ?_) | ((with_reducible refine D.box ?_); refine L.bx U U U U ?_) | ((with_reducible refine D.not ?_); refine L.nt U U U ?_) | ((with_reducible refine D.aw ?_); first | ((with_reducible refine D.sblk ?_); refine K.sq (AW.block ?_)) | refine K.sq (AW.regL ?_) | refine AW.condF U ?_ | refine AW.condS U (fun h => ?_) (fun h => ?_) | refine AW.skip ?_ | refine AW.ret ?_) | with_reducible refine K.tN ?_ | with_reducible refine K.bN ?_ | with_reducible refine K.tR ?_ | with_reducible refine K.bR ?_ | with_reducible refine K.r1 (by with_unfolding_all rfl) (by with_unfolding_all rfl) ?_)
    · exfalso; simp at h; omega
    · rfl
  refine AC.mk Tryz.func31 rfl rfl rfl rfl rfl (Nat.le_of_ble_eq_true rfl) ?_
  repeat' (first | ((with_reducible refine D.nil ?_); refine AX.nilL ?_) | ((with_reducible refine D.load ?_); refine L.ldb U U U U U U ?_) | ((with_reducible refine D.move ?_); refine L.mv U U U ?_) | ((with_reducible refine D.assign ?_); refine L.asg U U U ?_) | ((with_reducible refine D.call ?_); refine L.c2 (h2) U U U U ?_) | ((with_reducible refine D.extract ?_); refine L.ex U U U U ?_) | ((with_reducible refine D.box ?_); refine L.bx U U U U ?_) | ((with_reducible refine D.aw ?_); first | refine K.sq (AW.regL ?_) | refine AW.ret ?_) | with_reducible refine K.tN ?_ | with_reducible refine K.r1 (by with_unfolding_all rfl) (by with_unfolding_all rfl) ?_)
  rfl
end Go.Ab
namespace Go.Ab
open Go Go.Proofs
set_option maxRecDepth 100000
set_option maxHeartbeats 4000000
set_option linter.all false
theorem copyFm_c : ∀ (b : Nat) (f : Fm), f.full ≤ b → b < 1099511627776 → PC E 77 [.agg f.view] (.agg f.view) := by
  intro b
  induction b with
  | zero => intro f h; have := f.full_pos; omega
  | succ b ih =>
  intro f hsz hb
  have hsz' := f.full_eq
  have hlen := lsum_len Fm.full Fm.full_pos f.args
  have hlen2 := lsum_len Tm.full Tm.full_pos f.terms
  have hty := copyTy_c _ f.ty (Nat.le_refl _) (by omega)
  refine AC.mk Tryz.func77 rfl rfl rfl rfl rfl (Nat.le_of_ble_eq_true rfl) ?_
  repeat' (first | ((with_reducible refine D.nil ?_); first | refine AX.nilL ?_ | refine AX.nilD (by kernel_rfl) ?_) | ((with_reducible refine D.load ?_); refine L.ldb U U U U U U ?_) | ((with_reducible refine D.move ?_); refine L.mv U U U ?_) | ((with_reducible refine D.fieldAddr ?_); refine L.fab U U U U U ?_) | ((with_reducible refine D.call ?_); first | refine L.lnt U U U U ?_ | refine L.c2 (hty) U U U U ?_) | ((with_reducible refine D.box ?_); refine L.bx U U U U ?_) | ((with_reducible refine D.alloc ?_); refine L.al U U U ?_) | ((with_reducible refine D.store ?_); refine L.st U U U U U U U U U ?_) | ((with_reducible refine D.ax ?_); refine L.bd U U U U U ?_) | ((with_reducible refine D.aw ?_); first | refine K.sq (AW.regL ?_) | refine K.sq (AW.regD mixed (by kernel_rfl) ?_) | refine K.sq (K.sq ?_) | refine AW.regL ?_) | with_reducible refine K.tN ?_)
  refine AW.range f.terms.length (fun m => True)
    (fun m => ([(1, .ptr 0 0), (2, .ptr 1 0), (3, .ptr 2 0), (15, .s .tm f.terms), (16, .i f.terms.length), (17, .i m)], ⟨4, [(0, .var f.view), (1, .var [.i 0, .i 0, .slice .nil (.t .ty []), .slice .nil (.t .tm []), .slice .nil (.t .fm [])]), (2, .var [.i f.kind, .i f.ty.kind, .s .ty f.ty.args, .slice (.own 3) (.t .tm (f.terms.take m)), .slice .nil (.t .fm [])]), (3, .row)]⟩))
    (by omega) (fun m => rfl) (fun m => rfl) U trivial (Weak.mk [some 0, some 1, some 2, none] _ _ _ U U U U (by (repeat' (first | exact trivial | refine And.intro ?_ ?_ | refine ⟨_, U, _, U, ?_⟩ | exact VLe.refl _)); done) (by (repeat' (first | exact trivial | exact Or.inl U | refine And.intro ?_ ?_ | refine ⟨_, U, _, U, _, U, ?_⟩ | exact VLe.refl _)); done)) ?_ ?_
  · intro m hm _
    have hs2 := lsum_mem Tm.full (List.getElem_mem hm)
    repeat' (first | ((with_reducible refine D.nil ?_); first | refine AX.nilL ?_ | refine AX.nilD (by kernel_rfl) ?_) | ((with_reducible refine D.load ?_); first | refine L.ldb U U U U U U ?_ | refine L.lda U U U U U ?_) | ((with_reducible refine D.fieldAddr ?_); refine L.fab U U U U U ?_) | ((with_reducible refine D.call ?_); first | refine L.apt U U U U U U (by first | exact trivial | exact ⟨rfl, trivial⟩) U U (by first | omega | (simp; omega)) ?_ | refine L.c2 (copyTm_c _ _ (Nat.le_refl _) ?_) U U U U ?_) | ((with_reducible refine D.alloc ?_); refine L.al U U U ?_) | ((with_reducible refine D.store ?_); refine L.st U U U U U U U U U ?_) | ((with_reducible refine D.indexAddr ?_); refine L.ixt _ U U U U U U U (by assumption) ?_) | ((with_reducible refine D.ax ?_); refine L.bs1 U U U U U (EC.fold_of U) U U ?_) | ((with_reducible refine D.aw ?_); first | refine K.sq (AW.regL ?_) | refine AW.regD mixed (by kernel_rfl) ?_) | with_reducible refine K.tN ?_ | with_reducible refine K.bN ?_ | ((with_reducible show @LT.lt Nat _ _ _); omega))
    exact ⟨rfl, trivial, (Weak.mk [some 0, some 1, some 2, some 5] _ _ _ U U U U (by (repeat' (first | exact trivial | refine And.intro ?_ ?_ | refine ⟨_, U, _, U, ?_⟩ | exact VLe.refl _)); done) (by (repeat' (first | exact trivial | exact Or.inr ⟨_, U, rfl⟩ | refine And.intro ?_ ?_ | refine ⟨_, U, _, U, _, U, ?_⟩ | exact VLe.refl _ | exact VLe.of_eq (by simp [Sto.upd, List.take_append_getElem]))); done))⟩
  · intro _
    simp only [List.take_length]
    repeat' (first | ((with_reducible refine D.nil ?_); refine AX.nilL ?_) | ((with_reducible refine D.load ?_); refine L.ldb U U U U U U ?_) | ((with_reducible refine D.move ?_); refine L.mv U U U ?_) | ((with_reducible refine D.fieldAddr ?_); refine L.fab U U U U U ?_) | ((with_reducible refine D.call ?_); refine L.lnt U U U U ?_) | ((with_reducible refine D.aw ?_); first | refine K.sq (K.sq ?_) | refine AW.regL ?_) | with_reducible refine K.tN ?_)
    refine AW.range f.args.length (fun m => True)
      (fun m => ([(1, .ptr 0 0), (2, .ptr 1 0), (3, .ptr 2 0), (30, .s .fm f.args), (31, .i f.args.length), (32, .i m)], ⟨5, [(0, .var f.view), (1, .var [.i 0, .i 0, .slice .nil (.t .ty []), .slice .nil (.t .tm []), .slice .nil (.t .fm [])]), (2, .var [.i f.kind, .i f.ty.kind, .s .ty f.ty.args, .slice (.own 3) (.t .tm f.terms), .slice (.own 4) (.t .fm (f.args.take m))]), (3, .row), (4, .row)]⟩))
      (by omega) (fun m => rfl) (fun m => rfl) U trivial (Weak.mk [some 0, some 1, some 2, some 3, none] _ _ _ U U U U (by (repeat' (first | exact trivial | refine And.intro ?_ ?_ | refine ⟨_, U, _, U, ?_⟩ | exact VLe.refl _)); done) (by (repeat' (first | exact trivial | exact Or.inl U | exact Or.inr ⟨_, U, rfl⟩ | refine And.intro ?_ ?_ | refine ⟨_, U, _, U, _, U, ?_⟩ | exact VLe.refl _)); done)) ?_ ?_
    · intro m hm _
      have hs2 := lsum_mem Fm.full (List.getElem_mem hm)
      repeat' (first | ((with_reducible refine D.nil ?_); first | refine AX.nilL ?_ | refine AX.nilD (by kernel_rfl) ?_) | ((with_reducible refine D.load ?_); first | refine L.ldb U U U U U U ?_ | refine L.lda U U U U U ?_) | ((with_reducible refine D.fieldAddr ?_); refine L.fab U U U U U ?_) | ((with_reducible refine D.call ?_); first | refine L.apt U U U U U U (by first | exact trivial | exact ⟨rfl, trivial⟩) U U (by first | omega | (simp; omega)) ?_ | refine L.c2 (ih _ ?_ ?_) U U U U ?_) | ((with_reducible refine D.alloc ?_); refine L.al U U U ?_) | ((with_reducible refine D.store ?_); refine L.st U U U U U U U U U ?_) | ((with_reducible refine D.indexAddr ?_); refine L.ixt _ U U U U U U U (by assumption) ?_) | ((with_reducible refine D.ax ?_); refine L.bs1 U U U U U (EC.fold_of U) U U ?_) | ((with_reducible refine D.aw ?_); first | refine K.sq (AW.regL ?_) | refine AW.regD mixed (by kernel_rfl) ?_) | with_reducible refine K.tN ?_ | with_reducible refine K.bN ?_ | ((with_reducible show @LE.le Nat _ _ _); omega) | ((with_reducible show @LT.lt Nat _ _ _); omega))
      exact ⟨rfl, trivial, (Weak.mk [some 0, some 1, some 2, some 3, some 6] _ _ _ U U U U (by (repeat' (first | exact trivial | refine And.intro ?_ ?_ | refine ⟨_, U, _, U, ?_⟩ | exact VLe.refl _)); done) (by (repeat' (first | exact trivial | exact Or.inr ⟨_, U, rfl⟩ | refine And.intro ?_ ?_ | refine ⟨_, U, _, U, _, U, ?_⟩ | exact VLe.refl _ | exact VLe.of_eq (by simp [Sto.upd, List.take_append_getElem]))); done))⟩
    · intro _
      simp only [List.take_length]
      repeat' (first | ((with_reducible refine D.nil ?_); refine AX.nilL ?_) | ((with_reducible refine D.load ?_); refine L.ldb U U U U U U ?_) | ((with_reducible refine D.store ?_); refine L.st U U U U U U U U U ?_) | ((with_reducible refine D.aw ?_); first | refine K.sq (AW.regL ?_) | refine AW.ret ?_) | with_reducible refine K.tN ?_ | with_reducible refine K.r1 (by with_unfolding_all rfl) (by with_unfolding_all rfl) ?_)
      rfl
theorem eqFm_c (a b : Tm) (ha : a.full < 1099511627776) (hb : b.full < 1099511627776) : PC E 149 [.agg a.view, .agg b.view] (.agg (eqF a b).view) := by
  have h1 := copyTm_c _ a (Nat.le_refl _) ha
  have h2 := copyTm_c _ b (Nat.le_refl _) hb
  refine AC.mk Tryz.func149 rfl rfl rfl rfl rfl (Nat.le_of_ble_eq_true rfl) ?_
  repeat' (first | ((with_reducible refine D.nil ?_); first | refine AX.nilL ?_ | refine AX.nilD (by kernel_rfl) ?_) | ((with_reducible refine D.load ?_); refine L.ldb U U U U U U ?_) | ((with_reducible refine D.call ?_); first | refine L.c2 (h1) U U U U ?_ | refine L.c2 (h2) U U U U ?_) | ((with_reducible refine D.box ?_); refine L.bx U U U U ?_) | ((with_reducible refine D.alloc ?_); refine L.al U U U ?_) | ((with_reducible refine D.store ?_); refine L.st U U U U U U U U U ?_) | ((with_reducible refine D.ax ?_); first | refine L.bd U U U U U ?_ | refine L.bs2 U U U U U (EC.fold_of U) U U U (EC.fold_of U) U U ?_) | ((with_reducible refine D.aw ?_); first | refine K.sq (AW.regL ?_) | refine K.sq (AW.regD mixed (by kernel_rfl) ?_) | refine AW.ret ?_) | with_reducible refine K.tN ?_ | with_reducible refine K.r1 (by with_unfolding_all rfl) (by with_unfolding_all rfl) ?_)
  rfl
end Go.Ab
namespace Go.Ab
open Go Go.Proofs
set_option maxRecDepth 100000
set_option maxHeartbeats 4000000
set_option linter.all false
def nearG (b : Bool) (l : List (Int × Int)) : Bool := b && l.all fun p => decide (p.1 ≤ 268435456)
end Go.Ab
namespace Go.Ab
open Go Go.Proofs
set_option maxRecDepth 100000
set_option maxHeartbeats 4000000
set_option linter.all false
theorem rbelow_c (t : Tm) : PC E 165 [.agg t.view] (.i (up t.kind 0)) := by
  refine AC.mk Tryz.func165 rfl rfl rfl rfl rfl (Nat.le_of_ble_eq_true rfl) ?_
  repeat' (first | ((with_reducible refine D.nil ?_); refine AX.nilL ?_) | ((with_reducible refine D.load ?_); refine L.ldb U U U U U U ?_) | ((with_reducible refine D.fieldAddr ?_); refine L.fab U U U U U ?_) | ((with_reducible refine D.assign ?_); refine L.asg U U U ?_) | ((with_reducible refine D.bin ?_); refine L.bn U U U U U ?_) | ((with_reducible refine D.box ?_); refine L.bx U U U U ?_) | ((with_reducible refine D.aw ?_); first | refine K.sq (AW.regL ?_) | refine K.sq (K.sq ?_) | refine AW.regL ?_ | refine AW.condS U (fun h => ?_) (fun h => ?_) | refine AW.skip ?_ | refine AW.ret ?_) | with_reducible refine K.tN ?_ | with_reducible refine K.tR ?_ | with_reducible refine K.r1 (by with_unfolding_all rfl) (by with_unfolding_all rfl) ?_)
  · have e : up t.kind 0 = 1 := by simp only [beq_iff_eq] at h; rw [h]; rfl
    rw [e]; rfl
  · have e : up t.kind 0 = 0 := by simp only [beq_eq_false_iff_ne, ne_eq] at h; exact if_neg h
    rw [e]; rfl
theorem up_bd (k b : Int) : b ≤ up k b ∧ up k b ≤ b + 1 := by simp only [up]; split <;> omega
theorem up_plus (k b : Int) : b + up k 0 = up k b := by simp only [up]; split <;> omega
theorem rleast_c (most : Int) (h0 : 0 ≤ most) : ∀ (n : Nat) (t : Tm), t.full ≤ n → n < 549755813888 → t.shape = true → PC E 57 [.agg t.view, .i most] (.bool (leastT most t)) := by
  intro n
  induction n with
  | zero => intro t h; have := t.full_pos; omega
  | succ n ih =>
  intro t hsz hn hs
  have hsz' := Tm.full_eq t
  have hlen := lsum_len Tm.full Tm.full_pos t.args
  have he := leastT_eq h0 hs
  refine AC.mk Tryz.func57 rfl rfl rfl rfl rfl (Nat.le_of_ble_eq_true rfl) ?_
  repeat' (first | ((with_reducible refine D.nil ?_); refine AX.nilL ?_) | ((with_reducible refine D.load ?_); refine L.ldb U U U U U U ?_) | ((with_reducible refine D.move ?_); refine L.mv U U U ?_) | ((with_reducible refine D.fieldAddr ?_); refine L.fab U U U U U ?_) | ((with_reducible refine D.assign ?_); refine L.asg U U U ?_) | ((with_reducible refine D.bin ?_); refine L.bn U U U U U ?_) | ((with_reducible refine D.call ?_); refine L.lnt U U U U ?_) | ((with_reducible refine D.box ?_); refine L.bx U U U U ?_) | ((with_reducible refine D.aw ?_); first | refine K.sq (AW.regL ?_) | refine K.sq (K.sq ?_) | refine AW.regL ?_ | refine AW.condS U (fun h => ?_) (fun h => ?_) | refine AW.skip ?_ | refine AW.ret ?_) | with_reducible refine K.tN ?_ | with_reducible refine K.tR ?_ | with_reducible refine K.r1 (by with_unfolding_all rfl) (by with_unfolding_all rfl) ?_)
  · have h1 : ¬ t.index ≤ most := by simp at h; omega
    rw [he, decide_eq_false h1]; rfl
  have h1 : t.index ≤ most := by simp at h; omega
  rw [decide_eq_true h1, Bool.true_and] at he
  refine AW.range t.args.length (fun m => ∀ j (hj : j < t.args.length), j < m → leastT most t.args[j] = true)
    (fun m => ([(1, .i most), (2, .ptr 0 0), (12, .s .tm t.args), (13, .i t.args.length), (14, .i m)], ⟨1, [(0, .var t.view)]⟩))
    (by omega) (fun m => rfl) (fun m => rfl) U (fun j hj h => by omega) (Weak.mk [some 0] _ _ _ U U U U (by (repeat' (first | exact trivial | refine And.intro ?_ ?_ | refine ⟨_, U, _, U, ?_⟩ | exact VLe.refl _)); done) (by (repeat' (first | exact trivial | refine And.intro ?_ ?_ | refine ⟨_, U, _, U, _, U, ?_⟩ | exact VLe.refl _)); done)) ?_ ?_
  · intro m hm hP
    have hs2 := lsum_mem Tm.full (List.getElem_mem hm)
    have hc := ih t.args[m] (by omega) (by omega) (shape_args hs _ (List.getElem_mem hm))
    repeat' (first | ((with_reducible refine D.nil ?_); refine AX.nilL ?_) | ((with_reducible refine D.load ?_); first | refine L.ldb U U U U U U ?_ | refine L.lda U U U U U ?_) | ((with_reducible refine D.move ?_); refine L.mv U U U ?_) | ((with_reducible refine D.assign ?_); refine L.asg U U U ?_) | ((with_reducible refine D.call ?_); refine L.c2 (hc) U U U U ?_) | ((with_reducible refine D.alloc ?_); refine L.al U U U ?_) | ((with_reducible refine D.store ?_); refine L.st U U U U U U U U U ?_) | ((with_reducible refine D.indexAddr ?_); refine L.ixt _ U U U U U U U (by assumption) ?_) | ((with_reducible refine D.not ?_); refine L.nt U U U ?_) | ((with_reducible refine D.aw ?_); first | refine K.sq (AW.regL ?_) | refine AW.condS U (fun h => ?_) (fun h => ?_) | refine AW.skip ?_ | refine AW.ret ?_) | with_reducible refine K.tN ?_ | with_reducible refine K.bN ?_ | with_reducible refine K.tR ?_ | with_reducible refine K.bR ?_ | with_reducible refine K.gR ?_ | with_reducible refine K.r1 (by with_unfolding_all rfl) (by with_unfolding_all rfl) ?_)
    · have hx : leastT most t.args[m] = false := by simpa using h
      rw [he, all_not (leastT most) hm hx]; rfl
    · have hx : leastT most t.args[m] = true := by simpa using h
      exact ⟨rfl, all_step (p := fun t => leastT most t = true) hm hP hx, (Weak.mk [some 0] _ _ _ U U U U (by (repeat' (first | exact trivial | refine And.intro ?_ ?_ | refine ⟨_, U, _, U, ?_⟩ | exact VLe.refl _)); done) (by (repeat' (first | exact trivial | refine And.intro ?_ ?_ | refine ⟨_, U, _, U, _, U, ?_⟩ | exact VLe.refl _)); done))⟩
  · intro hP
    rw [he, all_of (leastT most) t.args fun j hj => hP j hj hj]
    repeat' (first | ((with_reducible refine D.nil ?_); refine AX.nilL ?_) | ((with_reducible refine D.assign ?_); refine L.asg U U U ?_) | ((with_reducible refine D.aw ?_); first | refine K.sq (AW.regL ?_) | refine AW.ret ?_) | with_reducible refine K.tN ?_ | with_reducible refine K.r1 (by with_unfolding_all rfl) (by with_unfolding_all rfl) ?_)
    rfl
theorem rtimes_c : ∀ (n : Nat) (t : Tm) (at_ : Int), t.full ≤ n → n < 274877906944 → -274877906944 ≤ at_ → at_ + n < 549755813888 → t.shape = true → PC E 124 [.agg t.view, .i at_] (.i (timesT at_ t)) := by
  intro n
  induction n with
  | zero => intro t at_ h; have := t.full_pos; omega
  | succ n ih =>
  intro t at_ hsz hn h1 h2 hs
  have hsz' := Tm.full_eq t
  have hlen := lsum_len Tm.full Tm.full_pos t.args
  have he := timesT_eq at_ t
  have hup := up_bd t.kind at_
  have hpl := up_plus t.kind at_
  have hb := rbelow_c t
  by_cases hv : t.kind = 1 ∧ t.index = at_
  · rw [if_pos hv] at he
    rw [he]
    have ha := var_args hs hv.1
    obtain ⟨k, i, th, xs⟩ := t
    simp only [Tm.args_mk] at ha
    subst ha
    obtain ⟨hv1, hv2⟩ := hv
    simp only [Tm.kind_mk, Tm.index_mk] at hv1 hv2
    subst hv1; subst hv2
    refine AC.mk Tryz.func124 rfl rfl rfl rfl rfl (Nat.le_of_ble_eq_true rfl) ?_
    repeat' (first | ((with_reducible refine D.nil ?_); refine AX.nilL ?_) | ((with_reducible refine D.load ?_); refine L.ldb U U U U U U ?_) | ((with_reducible refine D.move ?_); refine L.mv U U U ?_) | ((with_reducible refine D.fieldAddr ?_); refine L.fab U U U U U ?_) | ((with_reducible refine D.assign ?_); refine L.asg U U U ?_) | ((with_reducible refine D.bin ?_); first | refine L.ad U U U U (by omega) ?_ | refine L.bn U U U U U ?_) | ((with_reducible refine D.call ?_); refine L.lnt U U U U ?_) | ((with_reducible refine D.box ?_); refine L.bx U U U U ?_) | ((with_reducible refine D.pick ?_); refine L.pk U U U U ?_) | ((with_reducible refine D.aw ?_); first | refine K.sq (AW.regL ?_) | refine K.sq (K.sq ?_) | refine AW.regL ?_ | refine AW.condS U (fun h => ?_) (fun h => ?_) | refine AW.skip ?_) | with_reducible refine K.tN ?_)
    all_goals first
      | (exfalso; simp at h; done)
      | skip
    all_goals
      refine AW.range 0 (fun m => True) (fun m => ([(1, .i i), (2, .ptr 0 0), (5, .i 1), (20, .s .tm []), (21, .i 0), (22, .i m)], ⟨1, [(0, .var (Tm.mk 1 i th []).view)]⟩))
        (by omega) (fun m => rfl) (fun m => rfl) U trivial (Weak.mk [some 0] _ _ _ U U U U (by (repeat' (first | exact trivial | refine And.intro ?_ ?_ | refine ⟨_, U, _, U, ?_⟩ | exact VLe.refl _)); done) (by (repeat' (first | exact trivial | refine And.intro ?_ ?_ | refine ⟨_, U, _, U, _, U, ?_⟩ | exact VLe.refl _)); done)) ?_ ?_
      · intro m hm; omega
      · intro _
        repeat' (first | ((with_reducible refine D.nil ?_); refine AX.nilL ?_) | ((with_reducible refine D.move ?_); refine L.mv U U U ?_) | ((with_reducible refine D.assign ?_); refine L.asg U U U ?_) | ((with_reducible refine D.aw ?_); first | refine K.sq (AW.regL ?_) | refine AW.ret ?_) | with_reducible refine K.tN ?_ | with_reducible refine K.r1 (by with_unfolding_all rfl) (by with_unfolding_all rfl) ?_)
        rfl
  rw [if_neg hv] at he
  refine AC.mk Tryz.func124 rfl rfl rfl rfl rfl (Nat.le_of_ble_eq_true rfl) ?_
  repeat' (first | ((with_reducible refine D.nil ?_); refine AX.nilL ?_) | ((with_reducible refine D.load ?_); first | refine L.ldb U U U U U U ?_ | refine AX.sk U U ?_) | ((with_reducible refine D.move ?_); first | refine L.mv U U U ?_ | refine AX.sk U U ?_) | ((with_reducible refine D.fieldAddr ?_); first | refine L.fab U U U U U ?_ | refine AX.sk U U ?_ | ((fail_if_success refine AX.wt U ?_); refine AX.gs U U (fun _ => trivial) (fun h => ?_) (fun h => ?_))) | ((with_reducible refine D.assign ?_); refine L.asg U U U ?_) | ((with_reducible refine D.bin ?_); first | refine L.ad U U U U (by omega) ?_ | refine L.bn U U U U U ?_ | refine AX.sk U U ?_) | ((with_reducible refine D.call ?_); refine L.lnt U U U U ?_) | ((with_reducible refine D.box ?_); refine L.bx U U U U ?_) | ((with_reducible refine D.pick ?_); refine L.pk U U U U ?_) | ((with_reducible refine D.aw ?_); first | refine K.sq (AW.regL ?_) | refine K.sq (K.sq ?_) | refine AW.regL ?_ | refine AW.condF U ?_ | refine AW.condS U (fun h => ?_) (fun h => ?_) | refine AW.skip ?_) | with_reducible refine K.tN ?_)
  all_goals first
    | (exfalso; simp_all; done)
    | skip
  all_goals
    refine AW.range t.args.length (fun m => True)
      (fun m => ([(1, .i at_), (2, .ptr 0 0), (5, .i (((t.args.take m).map (timesT (up t.kind at_))).sum : Nat)), (20, .s .tm t.args), (21, .i t.args.length), (22, .i m)], ⟨1, [(0, .var t.view)]⟩))
      (by omega) (fun m => rfl) (fun m => rfl) U trivial (Weak.mk [some 0] _ _ _ U U U U (by (repeat' (first | exact trivial | refine And.intro ?_ ?_ | refine ⟨_, U, _, U, ?_⟩ | exact VLe.refl _)); done) (by (repeat' (first | exact trivial | refine And.intro ?_ ?_ | refine ⟨_, U, _, U, _, U, ?_⟩ | exact VLe.refl _)); done)) ?_ ?_
    · intro m hm _
      have hs1 := lsum_take (timesT (up t.kind at_)) t.args m hm
      have hs2 := lsum_mem Tm.full (List.getElem_mem hm)
      have hs3 : ((t.args.take m).map (timesT (up t.kind at_))).sum ≤ (t.args.map Tm.full).sum := by
        have a1 := lsum_take_le Tm.full t.args m
        have a2 := lsum_le (f := timesT (up t.kind at_)) (g := Tm.full) (t.args.take m) fun x _ => Nat.le_trans (timesT_le x _) x.size_le_full
        omega
      have hs4 := timesT_le t.args[m] (up t.kind at_)
      have hs5 := t.args[m].size_le_full
      have hc := ih t.args[m] (up t.kind at_) (by omega) (by omega) (by omega) (by omega) (shape_args hs _ (List.getElem_mem hm))
      rw [← hpl] at hc hs1 hs3 hs4
      simp only [← hpl]
      repeat' (first | ((with_reducible refine D.nil ?_); first | refine AX.nilL ?_ | refine AX.nilD (by kernel_rfl) ?_) | ((with_reducible refine D.load ?_); first | refine L.ldb U U U U U U ?_ | refine L.lda U U U U U ?_) | ((with_reducible refine D.move ?_); refine L.mv U U U ?_) | ((with_reducible refine D.assign ?_); refine L.asg U U U ?_) | ((with_reducible refine D.bin ?_); refine L.ad U U U U (by omega) ?_) | ((with_reducible refine D.call ?_); first | refine L.c2 (hb) U U U U ?_ | refine L.c2 (hc) U U U U ?_) | ((with_reducible refine D.alloc ?_); refine L.al U U U ?_) | ((with_reducible refine D.store ?_); refine L.st U U U U U U U U U ?_) | ((with_reducible refine D.indexAddr ?_); refine L.ixt _ U U U U U U U (by assumption) ?_) | ((with_reducible refine D.aw ?_); first | refine K.sq (AW.regL ?_) | refine AW.regD mixed (by kernel_rfl) ?_) | with_reducible refine K.tN ?_ | with_reducible refine K.bN ?_)
      refine ⟨rfl, trivial, ?_⟩
      simp only [hs1]
      exact (Weak.mk [some 0] _ _ _ U U U U (by (repeat' (first | exact trivial | refine And.intro ?_ ?_ | refine ⟨_, U, _, U, ?_⟩ | exact VLe.refl _)); done) (by (repeat' (first | exact trivial | refine And.intro ?_ ?_ | refine ⟨_, U, _, U, _, U, ?_⟩ | exact VLe.refl _)); done))
    · intro _
      repeat' (first | ((with_reducible refine D.nil ?_); refine AX.nilL ?_) | ((with_reducible refine D.move ?_); refine L.mv U U U ?_) | ((with_reducible refine D.assign ?_); refine L.asg U U U ?_) | ((with_reducible refine D.aw ?_); first | refine K.sq (AW.regL ?_) | refine AW.ret ?_) | with_reducible refine K.tN ?_ | with_reducible refine K.r1 (by with_unfolding_all rfl) (by with_unfolding_all rfl) ?_)
      rw [he]
      simp [tupV, V.wk, V.wks, constV]
theorem rup_w (by_ : Int) (hby : -549755813888 ≤ by_ ∧ by_ ≤ 549755813888) : ∀ (n : Nat) (t : Tm) (fr : Int), t.full ≤ n → n < 274877906944 → -274877906944 ≤ fr → fr + n < 549755813888 → t.shape = true → (∀ p ∈ t.vars 0, 0 ≤ p.1 ∧ p.1 < 9223372036854775808 ∧ p.1 + by_ < 9223372036854775808) →
    PC E 166 [.agg t.view, .i fr, .i by_] (.agg (t.re (liftG fr by_) 0).view) := by
  intro n
  induction n with
  | zero => intro t fr h; have := t.full_pos; omega
  | succ n ih =>
  intro t fr hsz hn h1 h2 hs hix
  have hsz' := Tm.full_eq t
  have hlen := lsum_len Tm.full Tm.full_pos t.args
  have hup := up_bd t.kind fr
  have hpl := up_plus t.kind fr
  have hb := rbelow_c t
  by_cases hv : t.kind = 1
  · have ht := var_vT hs hv
    have hi := hix (t.index, 0) (by rw [vars_var hs hv]; simp)
    rw [ht]
    generalize t.index = i at hi
    simp only at hi
    rw [re_vT, liftG_eq]
    have hvi : (vT i).index = i := rfl
    refine AC.mk Tryz.func166 rfl rfl rfl rfl rfl (Nat.le_of_ble_eq_true rfl) ?_
    repeat' (first | ((with_reducible refine D.nil ?_); refine AX.nilL ?_) | ((with_reducible refine D.load ?_); refine L.ldb U U U U U U ?_) | ((with_reducible refine D.move ?_); refine L.mv U U U ?_) | ((with_reducible refine D.fieldAddr ?_); refine L.fab U U U U U ?_) | ((with_reducible refine D.bin ?_); first | refine L.ad U U U U (by omega) ?_ | refine L.bn U U U U U ?_) | ((with_reducible refine D.call ?_); refine L.lnt U U U U ?_) | ((with_reducible refine D.box ?_); refine L.bx U U U U ?_) | ((with_reducible refine D.alloc ?_); refine L.al U U U ?_) | ((with_reducible refine D.store ?_); refine L.st U U U U U U U U U ?_) | ((with_reducible refine D.pick ?_); refine L.pk U U U U ?_) | ((with_reducible refine D.ax ?_); refine L.bd U U U U U ?_) | ((with_reducible refine D.aw ?_); first | refine K.sq (AW.regL ?_) | refine K.sq (K.sq ?_) | refine AW.regL ?_ | refine AW.condS U (fun h => ?_) (fun h => ?_) | refine AW.skip ?_) | with_reducible refine K.tN ?_)
    all_goals first
      | (exfalso; simp at h; done)
      | skip
    · have h3 : i - 0 ≥ fr := by simp at h; omega
      rw [if_pos h3]
      refine AW.range 0 (fun m => True) (fun m => ([(1, .i fr), (2, .i by_), (3, .ptr 0 0), (6, .ptr 1 0), (7, .ptr 2 0), (32, .s .tm []), (33, .i 0), (34, .i m)], ⟨3, [(0, .var (vT i).view), (1, .var [.i 0, .i 0, .i 0, .slice .nil (.t .ty []), .slice .nil (.t .tm [])]), (2, .var [.i 1, .i (i + by_), .i 0, .s .ty [], .slice .nil (.t .tm [])])]⟩))
        (by omega) (fun m => rfl) (fun m => rfl) U trivial (Weak.mk [some 0, some 1, some 2] _ _ _ U U U U (by (repeat' (first | exact trivial | refine And.intro ?_ ?_ | refine ⟨_, U, _, U, ?_⟩ | exact VLe.refl _)); done) (by (repeat' (first | exact trivial | refine And.intro ?_ ?_ | refine ⟨_, U, _, U, _, U, ?_⟩ | exact VLe.refl _)); done)) ?_ ?_
      · intro m hm; omega
      · intro _
        repeat' (first | ((with_reducible refine D.nil ?_); refine AX.nilL ?_) | ((with_reducible refine D.load ?_); refine L.ldb U U U U U U ?_) | ((with_reducible refine D.store ?_); refine L.st U U U U U U U U U ?_) | ((with_reducible refine D.aw ?_); first | refine K.sq (AW.regL ?_) | refine AW.ret ?_) | with_reducible refine K.tN ?_ | with_reducible refine K.r1 (by with_unfolding_all rfl) (by with_unfolding_all rfl) ?_)
        rfl
    · have h3 : ¬ i - 0 ≥ fr := by simp at h; omega
      rw [if_neg h3]
      refine AW.range 0 (fun m => True) (fun m => ([(1, .i fr), (2, .i by_), (3, .ptr 0 0), (6, .ptr 1 0), (7, .ptr 2 0), (32, .s .tm []), (33, .i 0), (34, .i m)], ⟨3, [(0, .var (vT i).view), (1, .var [.i 0, .i 0, .i 0, .slice .nil (.t .ty []), .slice .nil (.t .tm [])]), (2, .var [.i 1, .i i, .i 0, .s .ty [], .slice .nil (.t .tm [])])]⟩))
        (by omega) (fun m => rfl) (fun m => rfl) U trivial (Weak.mk [some 0, some 1, some 2] _ _ _ U U U U (by (repeat' (first | exact trivial | refine And.intro ?_ ?_ | refine ⟨_, U, _, U, ?_⟩ | exact VLe.refl _)); done) (by (repeat' (first | exact trivial | refine And.intro ?_ ?_ | refine ⟨_, U, _, U, _, U, ?_⟩ | exact VLe.refl _)); done)) ?_ ?_
      · intro m hm; omega
      · intro _
        repeat' (first | ((with_reducible refine D.nil ?_); refine AX.nilL ?_) | ((with_reducible refine D.load ?_); refine L.ldb U U U U U U ?_) | ((with_reducible refine D.store ?_); refine L.st U U U U U U U U U ?_) | ((with_reducible refine D.aw ?_); first | refine K.sq (AW.regL ?_) | refine AW.ret ?_) | with_reducible refine K.tN ?_ | with_reducible refine K.r1 (by with_unfolding_all rfl) (by with_unfolding_all rfl) ?_)
        rfl
  have he := lift_node (fr := fr) (by_ := by_) hv
  refine AC.mk Tryz.func166 rfl rfl rfl rfl rfl (Nat.le_of_ble_eq_true rfl) ?_
  repeat' (first | ((with_reducible refine D.nil ?_); refine AX.nilL ?_) | ((with_reducible refine D.load ?_); first | refine L.ldb U U U U U U ?_ | refine AX.sk U U ?_) | ((with_reducible refine D.move ?_); first | refine L.mv U U U ?_ | refine AX.sk U U ?_) | ((with_reducible refine D.fieldAddr ?_); first | refine L.fab U U U U U ?_ | refine AX.sk U U ?_ | ((fail_if_success refine AX.wt U ?_); refine AX.gs U U (fun _ => trivial) (fun h => ?_) (fun h => ?_))) | ((with_reducible refine D.bin ?_); first | refine L.bn U U U U U ?_ | refine AX.sk U U ?_) | ((with_reducible refine D.call ?_); refine L.lnt U U U U ?_) | ((with_reducible refine D.box ?_); refine L.bx U U U U ?_) | ((with_reducible refine D.alloc ?_); refine L.al U U U ?_) | ((with_reducible refine D.store ?_); refine L.st U U U U U U U U U ?_) | ((with_reducible refine D.pick ?_); refine L.pk U U U U ?_) | ((with_reducible refine D.ax ?_); refine L.bd U U U U U ?_) | ((with_reducible refine D.aw ?_); first | refine K.sq (AW.regL ?_) | refine K.sq (K.sq ?_) | refine AW.regL ?_ | refine AW.condF U ?_ | refine AW.condS U (fun h => ?_) (fun h => ?_) | refine AW.skip ?_) | with_reducible refine K.tN ?_)
  all_goals first
    | (exfalso; simp_all; done)
    | skip
  all_goals
    refine AW.range t.args.length (fun m => True) (fun m => ([(1, .i fr), (2, .i by_), (3, .ptr 0 0), (6, .ptr 1 0), (7, .ptr 2 0), (32, .s .tm t.args), (33, .i t.args.length), (34, .i m)], ⟨4, [(0, .var t.view), (1, .var [.i 0, .i 0, .i 0, .slice .nil (.t .ty []), .slice .nil (.t .tm [])]), (2, .var [.i t.kind, .i t.index, .i t.ty.kind, .s .ty t.ty.args, .slice (.own 3) (.t .tm ((t.args.take m).map fun x => x.re (liftG (up t.kind fr) by_) 0))]), (3, .row)]⟩))
      (by omega) (fun m => rfl) (fun m => rfl) U trivial (Weak.mk [some 0, some 1, some 2, none] _ _ _ U U U U (by (repeat' (first | exact trivial | refine And.intro ?_ ?_ | refine ⟨_, U, _, U, ?_⟩ | exact VLe.refl _)); done) (by (repeat' (first | exact trivial | exact Or.inl U | refine And.intro ?_ ?_ | refine ⟨_, U, _, U, _, U, ?_⟩ | exact VLe.refl _)); done)) ?_ ?_
    · intro m hm _
      have hs2 := lsum_mem Tm.full (List.getElem_mem hm)
      have hc := ih t.args[m] (up t.kind fr) (by omega) (by omega) (by omega) (by omega) (shape_args hs _ (List.getElem_mem hm)) (fun p hp => by
        obtain ⟨q, hq, hqe⟩ := vars_idx (b' := up t.kind 0) p hp
        have := hix q (mem_vars hv (List.getElem_mem hm) hq)
        rw [← hqe]; exact this)
      rw [← hpl] at hc
      simp only [← hpl]
      repeat' (first | ((with_reducible refine D.nil ?_); first | refine AX.nilL ?_ | refine AX.nilD (by kernel_rfl) ?_) | ((with_reducible refine D.load ?_); first | refine L.ldb U U U U U U ?_ | refine L.lda U U U U U ?_) | ((with_reducible refine D.move ?_); refine L.mv U U U ?_) | ((with_reducible refine D.fieldAddr ?_); refine L.fab U U U U U ?_) | ((with_reducible refine D.bin ?_); refine L.ad U U U U (by omega) ?_) | ((with_reducible refine D.call ?_); first | refine L.apt U U U U U U (by first | exact trivial | exact ⟨rfl, trivial⟩) U U (by first | omega | (simp; omega)) ?_ | refine L.c2 (hb) U U U U ?_ | refine L.c2 (hc) U U U U ?_) | ((with_reducible refine D.alloc ?_); refine L.al U U U ?_) | ((with_reducible refine D.store ?_); refine L.st U U U U U U U U U ?_) | ((with_reducible refine D.indexAddr ?_); refine L.ixt _ U U U U U U U (by assumption) ?_) | ((with_reducible refine D.ax ?_); refine L.bs1 U U U U U (EC.fold_of U) U U ?_) | ((with_reducible refine D.aw ?_); first | refine K.sq (AW.regL ?_) | refine AW.regD mixed (by kernel_rfl) ?_) | with_reducible refine K.tN ?_ | with_reducible refine K.bN ?_)
      exact ⟨rfl, trivial, (Weak.mk [some 0, some 1, some 2, some 5] _ _ _ U U U U (by (repeat' (first | exact trivial | refine And.intro ?_ ?_ | refine ⟨_, U, _, U, ?_⟩ | exact VLe.refl _)); done) (by (repeat' (first | exact trivial | exact Or.inr ⟨_, U, rfl⟩ | refine And.intro ?_ ?_ | refine ⟨_, U, _, U, _, U, ?_⟩ | exact VLe.refl _ | exact VLe.of_eq (by simp [Sto.upd, map_take _ _ _ hm]))); done))⟩
    · intro _
      simp only [List.take_length]
      repeat' (first | ((with_reducible refine D.nil ?_); refine AX.nilL ?_) | ((with_reducible refine D.load ?_); refine L.ldb U U U U U U ?_) | ((with_reducible refine D.store ?_); refine L.st U U U U U U U U U ?_) | ((with_reducible refine D.aw ?_); first | refine K.sq (AW.regL ?_) | refine AW.ret ?_) | with_reducible refine K.tN ?_ | with_reducible refine K.r1 (by with_unfolding_all rfl) (by with_unfolding_all rfl) ?_)
      rw [he]
      simp [tupV, V.wk, V.wks, constV, Ty.view, Tm.view]
theorem rup_c (by_ : Int) (hby : -549755813888 ≤ by_ ∧ by_ ≤ 549755813888) : ∀ (n : Nat) (t : Tm) (fr : Int), t.full ≤ n → n < 274877906944 → -274877906944 ≤ fr → fr + n < 549755813888 → t.shape = true → (∀ p ∈ t.vars 0, 0 ≤ p.1 ∧ p.1 < 549755813888) →
    PC E 166 [.agg t.view, .i fr, .i by_] (.agg (t.re (liftG fr by_) 0).view) :=
  fun n t fr h1 h2 h3 h4 h5 h6 => rup_w by_ hby n t fr h1 h2 h3 h4 h5 fun p hp => by have := h6 p hp; omega
end Go.Ab
namespace Go.Ab
open Go Go.Proofs
set_option maxRecDepth 100000
set_option maxHeartbeats 4000000
set_option linter.all false
theorem rquant_c (k : Int) : PC E 154 [.i k] (.bool (quantK k)) := by
  have e : quantK k = decide (k = 4 ∨ k = 5 ∨ k = 6 ∨ k = 7) := by rw [Bool.eq_iff_iff, quantK_iff, decide_eq_true_iff]; omega
  rw [e]
  refine AC.mk Tryz.func154 rfl rfl rfl rfl rfl (Nat.le_of_ble_eq_true rfl) ?_
  repeat' (first | ((with_reducible refine D.nil ?_); refine AX.nilL ?_) | ((with_reducible refine D.move ?_); first | refine L.mv U U U ?_ | refine AX.sk U U ?_ | ((fail_if_success refine AX.wt U ?_); refine AX.gs U U (fun _ => trivial) (fun h => ?_) (fun h => ?_))) | ((with_reducible refine D.assign ?_); refine L.asg U U U ?_) | ((with_reducible refine D.bin ?_); first | refine L.bn U U U U U ?_ | refine AX.sk U U ?_) | ((with_reducible refine D.pick ?_); refine L.pk U U U U ?_) | ((with_reducible refine D.aw ?_); first | refine K.sq (AW.regL ?_) | refine AW.ret ?_) | with_reducible refine K.tN ?_ | with_reducible refine K.r1 (by with_unfolding_all rfl) (by with_unfolding_all rfl) ?_)
  all_goals (simp_all [tupV, V.wk, V.wks, constV]; try (first | omega | (rw [Bool.eq_iff_iff]; simp)))
theorem tyok_err (t : Ty) : t.ok = (t.err == 0) := Ty.ok_err t
theorem fshapeEq {f : Fm} (hk : f.kind = 1) : f.shape = (decide (f.args.length = 0) && f.ty.isNo && decide (f.terms.length = 2) && f.terms.all Tm.shape) := by
  rw [Fm.shape_eq]
  simp only [Fm.head, hk, if_true]
  by_cases h : f.args.length = 0
  · have ha : f.args = [] := List.length_eq_zero_iff.1 h
    rw [ha]
    cases f.ty.isNo <;> simp
    rw [Bool.eq_iff_iff]; simp
  · simp [h]
theorem fshapeTwo {f : Fm} (hk : f.kind = 2 ∨ f.kind = 3) : f.shape = (decide (f.terms.length = 0) && f.ty.isNo && decide (f.args.length = 2) && f.args.all Fm.shape) := by
  rw [Fm.shape_eq]
  have h1 : ¬ f.kind = 1 := by omega
  simp only [Fm.head, if_neg h1, if_pos hk]
  by_cases h : f.terms.length = 0
  · have ha : f.terms = [] := List.length_eq_zero_iff.1 h
    rw [ha]
    cases f.ty.isNo <;> simp
    rw [Bool.eq_iff_iff]; simp
  · simp [h]
theorem fshapeQu {f : Fm} (hk : quantK f.kind = true) : f.shape = (decide (f.terms.length = 0) && f.ty.ok && decide (f.args.length = 1) && f.args.all Fm.shape) := by
  rw [Fm.shape_eq]
  rw [quantK_iff] at hk
  have h1 : ¬ f.kind = 1 := by omega
  have h2 : ¬ (f.kind = 2 ∨ f.kind = 3) := by omega
  have h3 : f.kind = 4 ∨ f.kind = 5 ∨ f.kind = 6 ∨ f.kind = 7 := by omega
  simp only [Fm.head, if_neg h1, if_neg h2, if_pos h3]
  by_cases h : f.terms.length = 0
  · have ha : f.terms = [] := List.length_eq_zero_iff.1 h
    rw [ha]
    cases f.ty.ok <;> simp
    rw [Bool.eq_iff_iff]; simp
  · simp [h]
theorem fshapeNo {f : Fm} (h1 : f.kind ≠ 1) (h2 : ¬ (f.kind = 2 ∨ f.kind = 3)) (h3 : quantK f.kind = false) : f.shape = false := by
  rw [Fm.shape_eq]
  have h4 : ¬ (f.kind = 4 ∨ f.kind = 5 ∨ f.kind = 6 ∨ f.kind = 7) := by
    intro hc
    have : quantK f.kind = true := by rw [quantK_iff]; omega
    rw [h3] at this; cases this
  simp only [Fm.head, if_neg h1, if_neg h2, if_neg h4, Bool.false_and]
theorem fshapeR_c : ∀ (n : Nat) (f : Fm), f.full ≤ n → n < 549755813888 → PC E 113 [.agg f.view] (.bool f.shape) := by
  intro n
  induction n with
  | zero => intro f h; have := f.full_pos; omega
  | succ n ih =>
  intro f hsz hn
  have hsz' := f.full_eq
  have hlen := lsum_len Fm.full Fm.full_pos f.args
  have hlen2 := lsum_len Tm.full Tm.full_pos f.terms
  have hz := zeroTy_c f.ty
  have hty := checkTyR_c f.ty (by omega)
  have hq := rquant_c f.kind
  have ht : ∀ x ∈ f.terms, PC E 55 [.agg x.view] (.bool x.shape) := fun x hx => shapeTm_c _ x (Nat.le_refl _) (by have := lsum_mem Tm.full hx; omega)
  have ha : ∀ x ∈ f.args, PC E 113 [.agg x.view] (.bool x.shape) := fun x hx => ih x (by have := lsum_mem Fm.full hx; omega) (by omega)
  clear ih
  by_cases k1 : f.kind = 1
  · have e := fshapeEq k1
    obtain ⟨k, ty, ts, fs⟩ := f
    simp only [Fm.kind_mk, Fm.ty_mk, Fm.terms_mk, Fm.args_mk] at *
    subst k1
    by_cases hl : ts.length = 2
    · obtain ⟨a, b, rfl⟩ := len_2 hl
      have t1 := ht a (by simp)
      have t2 := ht b (by simp)
      rw [e]
      refine AC.mk Tryz.func113 rfl rfl rfl rfl rfl (Nat.le_of_ble_eq_true rfl) ?_
      repeat' (first | ((with_reducible refine D.nil ?_); refine AX.nilL ?_) | ((with_reducible refine D.load ?_); first | refine L.ldb U U U U U U ?_ | refine L.lda U U U U U ?_ | refine AX.sk U U ?_) | ((with_reducible refine D.move ?_); refine L.mv U U U ?_) | ((with_reducible refine D.fieldAddr ?_); first | refine L.fab U U U U U ?_ | refine AX.sk U U ?_ | ((fail_if_success refine AX.wt U ?_); refine AX.gs U U (fun _ => trivial) (fun h => ?_) (fun h => ?_))) | ((with_reducible refine D.assign ?_); refine L.asg U U U ?_) | ((with_reducible refine D.bin ?_); first | refine L.bn U U U U U ?_ | refine AX.sk U U ?_) | ((with_reducible refine D.call ?_); first | refine L.lnt U U U U ?_ | refine L.c2 (hz) U U U U ?_ | refine L.c2 (t1) U U U U ?_ | refine L.c2 (t2) U U U U ?_ | refine AX.sk U U ?_) | ((with_reducible refine D.box ?_); refine L.bx U U U U ?_) | ((with_reducible refine D.indexAddr ?_); first | refine L.ixt _ U U U U U U U (by (simp; done)) ?_ | refine AX.sk U U ?_) | ((with_reducible refine D.pick ?_); refine L.pk U U U U ?_) | ((with_reducible refine D.aw ?_); first | ((with_reducible refine D.sblk ?_); refine K.sq (AW.block ?_)) | refine K.sq (AW.regL ?_) | refine AW.condT U ?_ | refine AW.ret ?_) | with_reducible refine K.tN ?_ | with_reducible refine K.tR ?_ | with_reducible refine K.bR ?_ | with_reducible refine K.r1 (by with_unfolding_all rfl) (by with_unfolding_all rfl) ?_)
      all_goals (simp at *; simp_all [tupV, V.wk, V.wks, constV]; done)
    · have e2 : (Fm.mk 1 ty ts fs).shape = false := by rw [e]; simp [hl]
      rw [e2]
      refine AC.mk Tryz.func113 rfl rfl rfl rfl rfl (Nat.le_of_ble_eq_true rfl) ?_
      repeat' (first | ((with_reducible refine D.nil ?_); refine AX.nilL ?_) | ((with_reducible refine D.load ?_); first | refine L.ldb U U U U U U ?_ | refine L.lda U U U U U ?_ | refine AX.sk U U ?_) | ((with_reducible refine D.move ?_); refine L.mv U U U ?_) | ((with_reducible refine D.fieldAddr ?_); first | refine L.fab U U U U U ?_ | refine AX.sk U U ?_ | ((fail_if_success refine AX.wt U ?_); refine AX.gs U U (fun _ => trivial) (fun h => ?_) (fun h => ?_))) | ((with_reducible refine D.assign ?_); refine L.asg U U U ?_) | ((with_reducible refine D.bin ?_); first | refine L.bn U U U U U ?_ | refine AX.sk U U ?_) | ((with_reducible refine D.call ?_); first | refine L.lnt U U U U ?_ | refine L.c2 (hz) U U U U ?_ | refine AX.sk U U ?_) | ((with_reducible refine D.box ?_); refine L.bx U U U U ?_) | ((with_reducible refine D.indexAddr ?_); first | refine L.ixt _ U U U U U U U (by (simp at *; omega)) ?_ | refine AX.sk U U ?_) | ((with_reducible refine D.pick ?_); refine L.pk U U U U ?_) | ((with_reducible refine D.aw ?_); first | ((with_reducible refine D.sblk ?_); refine K.sq (AW.block ?_)) | refine K.sq (AW.regL ?_) | refine AW.condT U ?_ | refine AW.ret ?_) | with_reducible refine K.tN ?_ | with_reducible refine K.tR ?_ | with_reducible refine K.bR ?_ | with_reducible refine K.r1 (by with_unfolding_all rfl) (by with_unfolding_all rfl) ?_)
      all_goals first
        | (simp at *; simp_all [tupV, V.wk, V.wks, constV]; done)
        | (exfalso; simp at *; omega)
  by_cases k2 : f.kind = 2 ∨ f.kind = 3
  · have e := fshapeTwo k2
    obtain ⟨k, ty, ts, fs⟩ := f
    simp only [Fm.kind_mk, Fm.ty_mk, Fm.terms_mk, Fm.args_mk] at *
    by_cases hl : fs.length = 2
    · obtain ⟨a, b, rfl⟩ := len_2 hl
      have t1 := ha a (by simp)
      have t2 := ha b (by simp)
      rw [e]
      rcases k2 with rfl | rfl
      all_goals
        refine AC.mk Tryz.func113 rfl rfl rfl rfl rfl (Nat.le_of_ble_eq_true rfl) ?_
        repeat' (first | ((with_reducible refine D.nil ?_); refine AX.nilL ?_) | ((with_reducible refine D.load ?_); first | refine L.ldb U U U U U U ?_ | refine L.lda U U U U U ?_ | refine AX.sk U U ?_) | ((with_reducible refine D.move ?_); refine L.mv U U U ?_) | ((with_reducible refine D.fieldAddr ?_); first | refine L.fab U U U U U ?_ | refine AX.sk U U ?_ | ((fail_if_success refine AX.wt U ?_); refine AX.gs U U (fun _ => trivial) (fun h => ?_) (fun h => ?_))) | ((with_reducible refine D.assign ?_); refine L.asg U U U ?_) | ((with_reducible refine D.bin ?_); first | refine L.bn U U U U U ?_ | refine AX.sk U U ?_) | ((with_reducible refine D.call ?_); first | refine L.lnt U U U U ?_ | refine L.c2 (hz) U U U U ?_ | refine L.c2 (t1) U U U U ?_ | refine L.c2 (t2) U U U U ?_ | refine AX.sk U U ?_) | ((with_reducible refine D.box ?_); refine L.bx U U U U ?_) | ((with_reducible refine D.indexAddr ?_); first | refine L.ixt _ U U U U U U U (by (simp; done)) ?_ | refine AX.sk U U ?_) | ((with_reducible refine D.pick ?_); refine L.pk U U U U ?_) | ((with_reducible refine D.aw ?_); first | ((with_reducible refine D.sblk ?_); refine K.sq (AW.block ?_)) | refine K.sq (AW.regL ?_) | refine AW.condT U ?_ | refine AW.condF U ?_ | refine AW.ret ?_) | with_reducible refine K.tN ?_ | with_reducible refine K.tR ?_ | with_reducible refine K.bR ?_ | with_reducible refine K.r1 (by with_unfolding_all rfl) (by with_unfolding_all rfl) ?_)
        all_goals (simp at *; simp_all [tupV, V.wk, V.wks, constV]; done)
    · have e2 : (Fm.mk k ty ts fs).shape = false := by rw [e]; simp [hl]
      rw [e2]
      rcases k2 with rfl | rfl
      all_goals
        refine AC.mk Tryz.func113 rfl rfl rfl rfl rfl (Nat.le_of_ble_eq_true rfl) ?_
        repeat' (first | ((with_reducible refine D.nil ?_); refine AX.nilL ?_) | ((with_reducible refine D.load ?_); first | refine L.ldb U U U U U U ?_ | refine L.lda U U U U U ?_ | refine AX.sk U U ?_) | ((with_reducible refine D.move ?_); refine L.mv U U U ?_) | ((with_reducible refine D.fieldAddr ?_); first | refine L.fab U U U U U ?_ | refine AX.sk U U ?_ | ((fail_if_success refine AX.wt U ?_); refine AX.gs U U (fun _ => trivial) (fun h => ?_) (fun h => ?_))) | ((with_reducible refine D.assign ?_); refine L.asg U U U ?_) | ((with_reducible refine D.bin ?_); first | refine L.bn U U U U U ?_ | refine AX.sk U U ?_) | ((with_reducible refine D.call ?_); first | refine L.lnt U U U U ?_ | refine L.c2 (hz) U U U U ?_ | refine AX.sk U U ?_) | ((with_reducible refine D.box ?_); refine L.bx U U U U ?_) | ((with_reducible refine D.indexAddr ?_); first | refine L.ixt _ U U U U U U U (by (simp at *; omega)) ?_ | refine AX.sk U U ?_) | ((with_reducible refine D.pick ?_); refine L.pk U U U U ?_) | ((with_reducible refine D.aw ?_); first | ((with_reducible refine D.sblk ?_); refine K.sq (AW.block ?_)) | refine K.sq (AW.regL ?_) | refine AW.condT U ?_ | refine AW.condF U ?_ | refine AW.ret ?_) | with_reducible refine K.tN ?_ | with_reducible refine K.tR ?_ | with_reducible refine K.bR ?_ | with_reducible refine K.r1 (by with_unfolding_all rfl) (by with_unfolding_all rfl) ?_)
        all_goals first
          | (simp at *; simp_all [tupV, V.wk, V.wks, constV]; done)
          | (exfalso; simp at *; omega)
  cases k3 : quantK f.kind with
  | true =>
    have e := fshapeQu k3
    rw [k3] at hq
    have hk : f.kind = 4 ∨ f.kind = 5 ∨ f.kind = 6 ∨ f.kind = 7 := by rw [quantK_iff] at k3; omega
    obtain ⟨k, ty, ts, fs⟩ := f
    simp only [Fm.kind_mk, Fm.ty_mk, Fm.terms_mk, Fm.args_mk] at *
    rw [tyok_err] at e
    by_cases hl : fs.length = 1
    · obtain ⟨a, rfl⟩ := len_1 hl
      have t1 := ha a (by simp)
      rw [e]
      rcases hk with rfl | rfl | rfl | rfl
      all_goals
        refine AC.mk Tryz.func113 rfl rfl rfl rfl rfl (Nat.le_of_ble_eq_true rfl) ?_
        repeat' (first | ((with_reducible refine D.nil ?_); refine AX.nilL ?_) | ((with_reducible refine D.load ?_); first | refine L.ldb U U U U U U ?_ | refine L.lda U U U U U ?_ | refine AX.sk U U ?_) | ((with_reducible refine D.move ?_); refine L.mv U U U ?_) | ((with_reducible refine D.fieldAddr ?_); first | refine L.fab U U U U U ?_ | refine AX.sk U U ?_ | ((fail_if_success refine AX.wt U ?_); refine AX.gs U U (fun _ => trivial) (fun h => ?_) (fun h => ?_))) | ((with_reducible refine D.assign ?_); refine L.asg U U U ?_) | ((with_reducible refine D.bin ?_); first | refine L.bn U U U U U ?_ | refine AX.sk U U ?_) | ((with_reducible refine D.call ?_); first | refine L.lnt U U U U ?_ | refine L.c2 (hty) U U U U ?_ | refine L.c2 (hq) U U U U ?_ | refine L.c2 (t1) U U U U ?_ | refine AX.sk U U ?_) | ((with_reducible refine D.box ?_); refine L.bx U U U U ?_) | ((with_reducible refine D.indexAddr ?_); first | refine L.ixt _ U U U U U U U (by (simp; done)) ?_ | refine AX.sk U U ?_) | ((with_reducible refine D.pick ?_); refine L.pk U U U U ?_) | ((with_reducible refine D.aw ?_); first | ((with_reducible refine D.sblk ?_); refine K.sq (AW.block ?_)) | refine K.sq (AW.regL ?_) | refine AW.condT U ?_ | refine AW.condF U ?_ | refine AW.ret ?_) | with_reducible refine K.tN ?_ | with_reducible refine K.tR ?_ | with_reducible refine K.bR ?_ | with_reducible refine K.r1 (by with_unfolding_all rfl) (by with_unfolding_all rfl) ?_)
        all_goals (simp at *; simp_all [tupV, V.wk, V.wks, constV]; done)
    · have e2 : (Fm.mk k ty ts fs).shape = false := by rw [e]; simp [hl]
      rw [e2]
      rcases hk with rfl | rfl | rfl | rfl
      all_goals
        refine AC.mk Tryz.func113 rfl rfl rfl rfl rfl (Nat.le_of_ble_eq_true rfl) ?_
        repeat' (first | ((with_reducible refine D.nil ?_); refine AX.nilL ?_) | ((with_reducible refine D.load ?_); first | refine L.ldb U U U U U U ?_ | refine L.lda U U U U U ?_ | refine AX.sk U U ?_) | ((with_reducible refine D.move ?_); refine L.mv U U U ?_) | ((with_reducible refine D.fieldAddr ?_); first | refine L.fab U U U U U ?_ | refine AX.sk U U ?_ | ((fail_if_success refine AX.wt U ?_); refine AX.gs U U (fun _ => trivial) (fun h => ?_) (fun h => ?_))) | ((with_reducible refine D.assign ?_); refine L.asg U U U ?_) | ((with_reducible refine D.bin ?_); first | refine L.bn U U U U U ?_ | refine AX.sk U U ?_) | ((with_reducible refine D.call ?_); first | refine L.lnt U U U U ?_ | refine L.c2 (hty) U U U U ?_ | refine L.c2 (hq) U U U U ?_ | refine AX.sk U U ?_) | ((with_reducible refine D.box ?_); refine L.bx U U U U ?_) | ((with_reducible refine D.indexAddr ?_); first | refine L.ixt _ U U U U U U U (by (simp at *; omega)) ?_ | refine AX.sk U U ?_) | ((with_reducible refine D.pick ?_); refine L.pk U U U U ?_) | ((with_reducible refine D.aw ?_); first | ((with_reducible refine D.sblk ?_); refine K.sq (AW.block ?_)) | refine K.sq (AW.regL ?_) | refine AW.condT U ?_ | refine AW.condF U ?_ | refine AW.ret ?_) | with_reducible refine K.tN ?_ | with_reducible refine K.tR ?_ | with_reducible refine K.bR ?_ | with_reducible refine K.r1 (by with_unfolding_all rfl) (by with_unfolding_all rfl) ?_)
        all_goals first
          | (simp at *; simp_all [tupV, V.wk, V.wks, constV]; done)
          | (exfalso; simp at *; omega)
  | false =>
    have e := fshapeNo k1 k2 k3
    rw [k3] at hq
    rw [e]
    refine AC.mk Tryz.func113 rfl rfl rfl rfl rfl (Nat.le_of_ble_eq_true rfl) ?_
    repeat' (first | ((with_reducible refine D.nil ?_); refine AX.nilL ?_) | ((with_reducible refine D.load ?_); first | refine L.ldb U U U U U U ?_ | refine AX.sk U U ?_) | ((with_reducible refine D.move ?_); refine L.mv U U U ?_) | ((with_reducible refine D.fieldAddr ?_); first | refine L.fab U U U U U ?_ | refine AX.sk U U ?_ | ((fail_if_success refine AX.wt U ?_); refine AX.gs U U (fun _ => trivial) (fun h => ?_) (fun h => ?_))) | ((with_reducible refine D.assign ?_); refine L.asg U U U ?_) | ((with_reducible refine D.bin ?_); first | refine L.bn U U U U U ?_ | refine AX.sk U U ?_) | ((with_reducible refine D.call ?_); first | refine L.lnt U U U U ?_ | refine L.c2 (hq) U U U U ?_ | refine AX.sk U U ?_) | ((with_reducible refine D.box ?_); refine L.bx U U U U ?_) | ((with_reducible refine D.indexAddr ?_); refine AX.sk U U ?_) | ((with_reducible refine D.pick ?_); refine L.pk U U U U ?_) | ((with_reducible refine D.aw ?_); first | ((with_reducible refine D.sblk ?_); refine K.sq (AW.block ?_)) | refine K.sq (AW.regL ?_) | refine AW.condT U ?_ | refine AW.condF U ?_ | refine AW.condS U (fun h => ?_) (fun h => ?_) | refine AW.skip ?_ | refine AW.ret ?_) | with_reducible refine K.tN ?_ | with_reducible refine K.bN ?_ | with_reducible refine K.tR ?_ | with_reducible refine K.bR ?_ | with_reducible refine K.r1 (by with_unfolding_all rfl) (by with_unfolding_all rfl) ?_)
    all_goals first
      | rfl
      | (exfalso; simp at *; omega)
theorem fcountR_c : ∀ (n : Nat) (f : Fm), f.full ≤ n → n < 549755813888 → PC E 114 [.agg f.view] (.i f.size) := by
  intro n
  induction n with
  | zero => intro f h; have := f.full_pos; omega
  | succ n ih =>
  intro f hsz hn
  have hsz' := f.full_eq
  have hse := f.size_eq
  have hlen := lsum_len Fm.full Fm.full_pos f.args
  have hlen2 := lsum_len Tm.full Tm.full_pos f.terms
  have hle1 := lsum_le (f := Tm.size) (g := Tm.full) f.terms fun x _ => x.size_le_full
  have hle2 := lsum_le (f := Fm.size) (g := Fm.full) f.args fun x _ => x.size_le_full
  refine AC.mk Tryz.func114 rfl rfl rfl rfl rfl (Nat.le_of_ble_eq_true rfl) ?_
  repeat' (first | ((with_reducible refine D.nil ?_); refine AX.nilL ?_) | ((with_reducible refine D.load ?_); refine L.ldb U U U U U U ?_) | ((with_reducible refine D.move ?_); refine L.mv U U U ?_) | ((with_reducible refine D.fieldAddr ?_); refine L.fab U U U U U ?_) | ((with_reducible refine D.assign ?_); refine L.asg U U U ?_) | ((with_reducible refine D.call ?_); refine L.lnt U U U U ?_) | ((with_reducible refine D.box ?_); refine L.bx U U U U ?_) | ((with_reducible refine D.aw ?_); first | refine K.sq (AW.regL ?_) | refine K.sq (K.sq ?_) | refine AW.regL ?_) | with_reducible refine K.tN ?_)
  refine AW.range f.terms.length (fun m => True)
    (fun m => ([(1, .ptr 0 0), (3, .i (1 + ((f.terms.take m).map Tm.size).sum : Nat)), (9, .s .tm f.terms), (10, .i f.terms.length), (11, .i m)], ⟨1, [(0, .var f.view)]⟩))
    (by omega) (fun m => rfl) (fun m => rfl) U trivial (Weak.mk [some 0] _ _ _ U U U U (by (repeat' (first | exact trivial | refine And.intro ?_ ?_ | refine ⟨_, U, _, U, ?_⟩ | exact VLe.refl _)); done) (by (repeat' (first | exact trivial | refine And.intro ?_ ?_ | refine ⟨_, U, _, U, _, U, ?_⟩ | exact VLe.refl _)); done)) ?_ ?_
  · intro m hm _
    have hs1 := lsum_take Tm.size f.terms m hm
    have hs2 := lsum_mem Tm.full (List.getElem_mem hm)
    have hs3 := lsum_take_le Tm.size f.terms (m + 1)
    have hc := countTm_c _ f.terms[m] (Nat.le_refl _) (by omega)
    repeat' (first | ((with_reducible refine D.nil ?_); refine AX.nilL ?_) | ((with_reducible refine D.load ?_); first | refine L.ldb U U U U U U ?_ | refine L.lda U U U U U ?_) | ((with_reducible refine D.move ?_); refine L.mv U U U ?_) | ((with_reducible refine D.assign ?_); refine L.asg U U U ?_) | ((with_reducible refine D.bin ?_); refine L.ad U U U U (by omega) ?_) | ((with_reducible refine D.call ?_); refine L.c2 (hc) U U U U ?_) | ((with_reducible refine D.alloc ?_); refine L.al U U U ?_) | ((with_reducible refine D.store ?_); refine L.st U U U U U U U U U ?_) | ((with_reducible refine D.indexAddr ?_); refine L.ixt _ U U U U U U U (by assumption) ?_) | ((with_reducible refine D.aw ?_); first | refine K.sq (AW.regL ?_) | refine AW.regL ?_) | with_reducible refine K.tN ?_ | with_reducible refine K.bN ?_)
    refine ⟨rfl, trivial, ?_⟩
    simp only [hs1]
    exact (Weak.mk [some 0] _ _ _ U U U U (by (repeat' (first | exact trivial | refine And.intro ?_ ?_ | refine ⟨_, U, _, U, ?_⟩ | exact VLe.refl _ | exact VLe.of_eq (by simp [Sto.upd, Int.natCast_add, Int.add_assoc]))); done) (by (repeat' (first | exact trivial | refine And.intro ?_ ?_ | refine ⟨_, U, _, U, _, U, ?_⟩ | exact VLe.refl _)); done))
  · intro _
    simp only [List.take_length]
    repeat' (first | ((with_reducible refine D.nil ?_); refine AX.nilL ?_) | ((with_reducible refine D.load ?_); refine L.ldb U U U U U U ?_) | ((with_reducible refine D.move ?_); refine L.mv U U U ?_) | ((with_reducible refine D.fieldAddr ?_); refine L.fab U U U U U ?_) | ((with_reducible refine D.call ?_); refine L.lnt U U U U ?_) | ((with_reducible refine D.aw ?_); first | refine K.sq (K.sq ?_) | refine AW.regL ?_) | with_reducible refine K.tN ?_)
    refine AW.range f.args.length (fun m => True)
      (fun m => ([(1, .ptr 0 0), (3, .i (1 + (f.terms.map Tm.size).sum + ((f.args.take m).map Fm.size).sum : Nat)), (21, .s .fm f.args), (22, .i f.args.length), (23, .i m)], ⟨1, [(0, .var f.view)]⟩))
      (by omega) (fun m => rfl) (fun m => rfl) U trivial (Weak.mk [some 0] _ _ _ U U U U (by (repeat' (first | exact trivial | refine And.intro ?_ ?_ | refine ⟨_, U, _, U, ?_⟩ | exact VLe.refl _)); done) (by (repeat' (first | exact trivial | refine And.intro ?_ ?_ | refine ⟨_, U, _, U, _, U, ?_⟩ | exact VLe.refl _)); done)) ?_ ?_
    · intro m hm _
      have hs1 := lsum_take Fm.size f.args m hm
      have hs2 := lsum_mem Fm.full (List.getElem_mem hm)
      have hs3 := lsum_take_le Fm.size f.args (m + 1)
      have hc := ih f.args[m] (by omega) (by omega)
      repeat' (first | ((with_reducible refine D.nil ?_); refine AX.nilL ?_) | ((with_reducible refine D.load ?_); first | refine L.ldb U U U U U U ?_ | refine L.lda U U U U U ?_) | ((with_reducible refine D.move ?_); refine L.mv U U U ?_) | ((with_reducible refine D.assign ?_); refine L.asg U U U ?_) | ((with_reducible refine D.bin ?_); refine L.ad U U U U (by omega) ?_) | ((with_reducible refine D.call ?_); refine L.c2 (hc) U U U U ?_) | ((with_reducible refine D.alloc ?_); refine L.al U U U ?_) | ((with_reducible refine D.store ?_); refine L.st U U U U U U U U U ?_) | ((with_reducible refine D.indexAddr ?_); refine L.ixt _ U U U U U U U (by assumption) ?_) | ((with_reducible refine D.aw ?_); first | refine K.sq (AW.regL ?_) | refine AW.regL ?_) | with_reducible refine K.tN ?_ | with_reducible refine K.bN ?_)
      refine ⟨rfl, trivial, ?_⟩
      simp only [hs1]
      exact (Weak.mk [some 0] _ _ _ U U U U (by (repeat' (first | exact trivial | refine And.intro ?_ ?_ | refine ⟨_, U, _, U, ?_⟩ | exact VLe.refl _ | exact VLe.of_eq (by simp [Sto.upd, Int.natCast_add, Int.add_assoc]))); done) (by (repeat' (first | exact trivial | refine And.intro ?_ ?_ | refine ⟨_, U, _, U, _, U, ?_⟩ | exact VLe.refl _)); done))
    · intro _
      simp only [List.take_length]
      repeat' (first | ((with_reducible refine D.nil ?_); refine AX.nilL ?_) | ((with_reducible refine D.move ?_); refine L.mv U U U ?_) | ((with_reducible refine D.assign ?_); refine L.asg U U U ?_) | ((with_reducible refine D.aw ?_); first | refine K.sq (AW.regL ?_) | refine AW.ret ?_) | with_reducible refine K.tN ?_ | with_reducible refine K.r1 (by with_unfolding_all rfl) (by with_unfolding_all rfl) ?_)
      rw [hse]
      rfl
theorem fcheckR_c (f : Fm) (hf : f.full < 549755813888) : PC E 80 [.agg f.view] (.i f.err) := by
  have h1 := fshapeR_c _ f (Nat.le_refl _) hf
  have h2 := fcountR_c _ f (Nat.le_refl _) hf
  have hle := f.size_le_full
  cases hs : f.shape with
  | false =>
    have e : f.err = 2 := by simp [Fm.err, hs]
    rw [hs] at h1
    rw [e]
    refine AC.mk Tryz.func80 rfl rfl rfl rfl rfl (Nat.le_of_ble_eq_true rfl) ?_
    repeat' (first | ((with_reducible refine D.nil ?_); refine AX.nilL ?_) | ((with_reducible refine D.load ?_); refine L.ldb U U U U U U ?_) | ((with_reducible refine D.assign ?_); refine L.asg U U U ?_) | ((with_reducible refine D.call ?_); refine L.c2 (h1) U U U U ?_) | ((with_reducible refine D.box ?_); refine L.bx U U U U ?_) | ((with_reducible refine D.not ?_); refine L.nt U U U ?_) | ((with_reducible refine D.aw ?_); first | refine K.sq (AW.regL ?_) | refine K.sq (K.sq ?_) | refine AW.regL ?_ | refine AW.condT U ?_ | refine AW.ret ?_) | with_reducible refine K.tN ?_ | with_reducible refine K.tR ?_ | with_reducible refine K.r1 (by with_unfolding_all rfl) (by with_unfolding_all rfl) ?_)
    rfl
  | true =>
    rw [hs] at h1
    by_cases hz : f.size > 4096
    · have e : f.err = 4 := by simp [Fm.err, hs, hz]
      rw [e]
      refine AC.mk Tryz.func80 rfl rfl rfl rfl rfl (Nat.le_of_ble_eq_true rfl) ?_
      repeat' (first | ((with_reducible refine D.nil ?_); refine AX.nilL ?_) | ((with_reducible refine D.load ?_); refine L.ldb U U U U U U ?_) | ((with_reducible refine D.assign ?_); refine L.asg U U U ?_) | ((with_reducible refine D.bin ?_); refine L.bn U U U U U ?_) | ((with_reducible refine D.call ?_); first | refine L.c2 (h1) U U U U ?_ | refine L.c2 (h2) U U U U ?_) | ((with_reducible refine D.box ?_); refine L.bx U U U U ?_) | ((with_reducible refine D.not ?_); refine L.nt U U U ?_) | ((with_reducible refine D.aw ?_); first | refine K.sq (AW.regL ?_) | refine K.sq (K.sq ?_) | refine AW.regL ?_ | refine AW.condF U ?_ | refine AW.condS U (fun h => ?_) (fun h => ?_) | refine AW.skip ?_ | refine AW.ret ?_) | with_reducible refine K.tN ?_ | with_reducible refine K.tR ?_ | with_reducible refine K.r1 (by with_unfolding_all rfl) (by with_unfolding_all rfl) ?_)
      · rfl
      · exfalso; simp at h; omega
    · have e : f.err = 0 := by simp [Fm.err, hs, hz]
      rw [e]
      refine AC.mk Tryz.func80 rfl rfl rfl rfl rfl (Nat.le_of_ble_eq_true rfl) ?_
      repeat' (first | ((with_reducible refine D.nil ?_); refine AX.nilL ?_) | ((with_reducible refine D.load ?_); refine L.ldb U U U U U U ?_) | ((with_reducible refine D.assign ?_); refine L.asg U U U ?_) | ((with_reducible refine D.bin ?_); refine L.bn U U U U U ?_) | ((with_reducible refine D.call ?_); first | refine L.c2 (h1) U U U U ?_ | refine L.c2 (h2) U U U U ?_) | ((with_reducible refine D.box ?_); refine L.bx U U U U ?_) | ((with_reducible refine D.not ?_); refine L.nt U U U ?_) | ((with_reducible refine D.aw ?_); first | refine K.sq (AW.regL ?_) | refine K.sq (K.sq ?_) | refine AW.regL ?_ | refine AW.condF U ?_ | refine AW.condS U (fun h => ?_) (fun h => ?_) | refine AW.skip ?_ | refine AW.ret ?_) | with_reducible refine K.tN ?_ | with_reducible refine K.tR ?_ | with_reducible refine K.r1 (by with_unfolding_all rfl) (by with_unfolding_all rfl) ?_)
      · exfalso; simp at h; omega
      · rfl
end Go.Ab
namespace Go.Ab
open Go Go.Proofs
set_option maxRecDepth 100000
set_option maxHeartbeats 4000000
set_option linter.all false
theorem ftyped_c : ∀ (n : Nat) (f : Fm) (g : List Ty), f.full ≤ n → n < 100000000 → f.shape = true → (∀ x ∈ g, x.err = 0) → g.length + n < 274877906944 → g.length + f.size < 100000 → PC E 112 [.s .ty g, .agg f.view] (.i (f.tyE g)) := by
  intro n
  induction n with
  | zero => intro f g h; have := f.full_pos; omega
  | succ n ih =>
  intro f g hsz hn hs hg hgl hgz
  have hsz' := f.full_eq
  have hse := f.size_eq
  have hlen := lsum_len Fm.full Fm.full_pos f.args
  have hlen2 := lsum_len Tm.full Tm.full_pos f.terms
  have he := Fm.tyE_eq g f
  have hq := rquant_c f.kind
  refine AC.mk Tryz.func112 rfl rfl rfl rfl rfl (Nat.le_of_ble_eq_true rfl) ?_
  repeat' (first | ((with_reducible refine D.nil ?_); refine AX.nilL ?_) | ((with_reducible refine D.load ?_); refine L.ldb U U U U U U ?_) | ((with_reducible refine D.move ?_); refine L.mv U U U ?_) | ((with_reducible refine D.fieldAddr ?_); refine L.fab U U U U U ?_) | ((with_reducible refine D.assign ?_); refine L.asg U U U ?_) | ((with_reducible refine D.call ?_); refine L.lnt U U U U ?_) | ((with_reducible refine D.box ?_); refine L.bx U U U U ?_) | ((with_reducible refine D.aw ?_); first | refine K.sq (AW.regL ?_) | refine K.sq (K.sq ?_) | refine AW.regL ?_) | with_reducible refine K.tN ?_)
  refine AW.range f.terms.length (fun m => ∀ j (hj : j < f.terms.length), j < m → tE g f.terms[j] = 0)
    (fun m => ([(0, .s .ty g), (3, .ptr 0 0), (13, .s .tm f.terms), (14, .i f.terms.length), (15, .i m)], ⟨1, [(0, .var f.view)]⟩))
    (by omega) (fun m => rfl) (fun m => rfl) U (fun j hj h => by omega) (Weak.mk [some 0] _ _ _ U U U U (by (repeat' (first | exact trivial | refine And.intro ?_ ?_ | refine ⟨_, U, _, U, ?_⟩ | exact VLe.refl _)); done) (by (repeat' (first | exact trivial | refine And.intro ?_ ?_ | refine ⟨_, U, _, U, _, U, ?_⟩ | exact VLe.refl _)); done)) ?_ ?_
  · intro m hm hP
    have hs2 := lsum_mem Tm.full (List.getElem_mem hm)
    have hc := typed_c' g f.terms[m] (by omega) hg (by omega)
    have hfi : tE g f.terms[m] ≠ 0 → f.tyE g = tE g f.terms[m] := fun hx => by
      have h1 := firstI_at hm hP hx
      rw [he, h1, if_pos hx]
    by_cases hx : (typed g f.terms[m]).2 = 0
    · by_cases hk : (typed g f.terms[m]).1.kind = 1
      · have ht : tE g f.terms[m] = 0 := by simp [tE, hx, hk]
        rw [hx] at hc
        repeat' (first | ((with_reducible refine D.nil ?_); refine AX.nilL ?_) | ((with_reducible refine D.load ?_); first | refine L.ldb U U U U U U ?_ | refine L.lda U U U U U ?_) | ((with_reducible refine D.move ?_); refine L.mv U U U ?_) | ((with_reducible refine D.fieldAddr ?_); refine L.fab U U U U U ?_) | ((with_reducible refine D.assign ?_); refine L.asg U U U ?_) | ((with_reducible refine D.bin ?_); refine L.bn U U U U U ?_) | ((with_reducible refine D.call ?_); refine L.c2 (hc) U U U U ?_) | ((with_reducible refine D.extract ?_); refine L.ex U U U U ?_) | ((with_reducible refine D.alloc ?_); refine L.al U U U ?_) | ((with_reducible refine D.store ?_); refine L.st U U U U U U U U U ?_) | ((with_reducible refine D.indexAddr ?_); refine L.ixt _ U U U U U U U (by assumption) ?_) | ((with_reducible refine D.aw ?_); first | refine K.sq (AW.regL ?_) | refine K.sq (K.sq ?_) | refine AW.regL ?_ | refine AW.condF U ?_ | refine AW.condS U (fun h => ?_) (fun h => ?_) | refine AW.skip ?_ | refine AW.ret ?_) | with_reducible refine K.tN ?_ | with_reducible refine K.bN ?_ | with_reducible refine K.tR ?_ | with_reducible refine K.bR ?_ | with_reducible refine K.gR ?_ | with_reducible refine K.r1 (by with_unfolding_all rfl) (by with_unfolding_all rfl) ?_)
        · exfalso; simp at h; exact h hk
        · exact ⟨rfl, all_step (p := fun t' => tE g t' = 0) hm hP ht, (Weak.mk [some 0] _ _ _ U U U U (by (repeat' (first | exact trivial | refine And.intro ?_ ?_ | refine ⟨_, U, _, U, ?_⟩ | exact VLe.refl _)); done) (by (repeat' (first | exact trivial | refine And.intro ?_ ?_ | refine ⟨_, U, _, U, _, U, ?_⟩ | exact VLe.refl _)); done))⟩
      · have ht : tE g f.terms[m] = 7 := by simp [tE, hx, hk]
        rw [ht] at hfi
        rw [hfi (by decide)]
        rw [hx] at hc
        repeat' (first | ((with_reducible refine D.nil ?_); refine AX.nilL ?_) | ((with_reducible refine D.load ?_); first | refine L.ldb U U U U U U ?_ | refine L.lda U U U U U ?_) | ((with_reducible refine D.move ?_); refine L.mv U U U ?_) | ((with_reducible refine D.fieldAddr ?_); refine L.fab U U U U U ?_) | ((with_reducible refine D.assign ?_); refine L.asg U U U ?_) | ((with_reducible refine D.bin ?_); refine L.bn U U U U U ?_) | ((with_reducible refine D.call ?_); refine L.c2 (hc) U U U U ?_) | ((with_reducible refine D.extract ?_); refine L.ex U U U U ?_) | ((with_reducible refine D.alloc ?_); refine L.al U U U ?_) | ((with_reducible refine D.store ?_); refine L.st U U U U U U U U U ?_) | ((with_reducible refine D.indexAddr ?_); refine L.ixt _ U U U U U U U (by assumption) ?_) | ((with_reducible refine D.aw ?_); first | refine K.sq (AW.regL ?_) | refine K.sq (K.sq ?_) | refine AW.regL ?_ | refine AW.condF U ?_ | refine AW.condS U (fun h => ?_) (fun h => ?_) | refine AW.skip ?_ | refine AW.ret ?_) | with_reducible refine K.tN ?_ | with_reducible refine K.bN ?_ | with_reducible refine K.tR ?_ | with_reducible refine K.bR ?_ | with_reducible refine K.gR ?_ | with_reducible refine K.r1 (by with_unfolding_all rfl) (by with_unfolding_all rfl) ?_)
        · rfl
        · exfalso; simp at h; exact hk h
    · have ht : tE g f.terms[m] = (typed g f.terms[m]).2 := by simp [tE, hx]
      rw [ht] at hfi
      rw [hfi hx]
      repeat' (first | ((with_reducible refine D.nil ?_); refine AX.nilL ?_) | ((with_reducible refine D.load ?_); first | refine L.ldb U U U U U U ?_ | refine L.lda U U U U U ?_) | ((with_reducible refine D.move ?_); refine L.mv U U U ?_) | ((with_reducible refine D.fieldAddr ?_); refine L.fab U U U U U ?_) | ((with_reducible refine D.assign ?_); refine L.asg U U U ?_) | ((with_reducible refine D.bin ?_); refine L.bn U U U U U ?_) | ((with_reducible refine D.call ?_); refine L.c2 (hc) U U U U ?_) | ((with_reducible refine D.extract ?_); refine L.ex U U U U ?_) | ((with_reducible refine D.alloc ?_); refine L.al U U U ?_) | ((with_reducible refine D.store ?_); refine L.st U U U U U U U U U ?_) | ((with_reducible refine D.indexAddr ?_); refine L.ixt _ U U U U U U U (by assumption) ?_) | ((with_reducible refine D.aw ?_); first | refine K.sq (AW.regL ?_) | refine K.sq (K.sq ?_) | refine AW.regL ?_ | refine AW.condS U (fun h => ?_) (fun h => ?_) | refine AW.skip ?_ | refine AW.ret ?_) | with_reducible refine K.tN ?_ | with_reducible refine K.bN ?_ | with_reducible refine K.tR ?_ | with_reducible refine K.bR ?_ | with_reducible refine K.gR ?_ | with_reducible refine K.r1 (by with_unfolding_all rfl) (by with_unfolding_all rfl) ?_)
      · rfl
      all_goals (exfalso; simp_all)
  · intro hP
    have h0 : firstI (tE g) f.terms = 0 := firstI_none fun j hj _ => hP j hj hj
    rw [if_neg (by simp [h0])] at he
    have htyl := f.ty.size_pos
    have hrest : ∀ g', g' = ctxF g f → (∀ x ∈ g', x.err = 0) ∧ g'.length ≤ g.length + 1 ∧ ∀ (m : Nat) (hm : m < f.args.length), PC E 112 [.s .ty g', .agg f.args[m].view] (.i (f.args[m].tyE g')) := fun g' hg' => by
      have hl : g'.length ≤ g.length + 1 := by rw [hg']; simp only [ctxF]; split <;> simp
      have hee : ∀ x ∈ g', x.err = 0 := fun x hx => by
        rw [hg'] at hx
        simp only [ctxF] at hx
        split at hx
        · rename_i hqk
          rcases List.mem_append.1 hx with hx | hx
          · exact hg x hx
          · rw [List.mem_singleton] at hx; subst hx
            have h1 := fshapeQu hqk
            rw [hs] at h1
            have h2 : f.ty.ok = true := by
              cases ho : f.ty.ok with
              | true => rfl
              | false => rw [ho] at h1; simp at h1
            rw [tyok_err] at h2
            simpa using h2
        · exact hg x hx
      refine ⟨hee, hl, fun m hm => ?_⟩
      have hs2 := lsum_mem Fm.full (List.getElem_mem hm)
      have hs3 := lsum_mem Fm.size (List.getElem_mem hm)
      exact ih f.args[m] g' (by omega) (by omega) (fshape_args hs (List.getElem_mem hm)) hee (by omega) (by omega)
    cases hqk : quantK f.kind with
    | true =>
      rw [hqk] at hq
      have hcx : ctxF g f = g ++ [f.ty] := ctxF_q hqk
      obtain ⟨_, _, hcall⟩ := hrest (g ++ [f.ty]) hcx.symm
      rw [hcx] at he
      repeat' (first | ((with_reducible refine D.nil ?_); first | refine AX.nilL ?_ | refine AX.nilD (by kernel_rfl) ?_) | ((with_reducible refine D.load ?_); refine L.ldb U U U U U U ?_) | ((with_reducible refine D.move ?_); refine L.mv U U U ?_) | ((with_reducible refine D.fieldAddr ?_); refine L.fab U U U U U ?_) | ((with_reducible refine D.assign ?_); refine L.asg U U U ?_) | ((with_reducible refine D.call ?_); first | refine L.lnt U U U U ?_ | refine L.aptF U U U U (by first | assumption | simp) U U U (by first | omega | (simp; omega)) ?_ | refine L.c2 (hq) U U U U ?_) | ((with_reducible refine D.ax ?_); first | refine L.bs1 U U U U U (EC.fold_of U) U U ?_ | refine L.s3 U U U U U U ?_) | ((with_reducible refine D.aw ?_); first | refine K.sq (K.sq ?_) | refine AW.regL ?_ | refine AW.regD mixed (by kernel_rfl) ?_ | refine AW.condT U ?_) | with_reducible refine K.tN ?_)
      refine AW.range f.args.length (fun m => ∀ j (hj : j < f.args.length), j < m → f.args[j].tyE (g ++ [f.ty]) = 0)
        (fun m => ([(0, .s .ty (g ++ [f.ty])), (3, .ptr 0 0), (46, .s .fm f.args), (47, .i f.args.length), (48, .i m)], ⟨1, [(0, .var f.view)]⟩))
        (by omega) (fun m => rfl) (fun m => rfl) U (fun j hj h => by omega) (Weak.mk [some 0] _ _ _ U U U U (by (repeat' (first | exact trivial | refine And.intro ?_ ?_ | refine ⟨_, U, _, U, ?_⟩ | exact VLe.refl _ | exact VLe.any _ _)); done) (by (repeat' (first | exact trivial | refine And.intro ?_ ?_ | refine ⟨_, U, _, U, _, U, ?_⟩ | exact VLe.refl _)); done)) ?_ ?_
      · intro m hm hP
        have hc := hcall m hm
        by_cases hx : f.args[m].tyE (g ++ [f.ty]) = 0
        · rw [hx] at hc
          repeat' (first | ((with_reducible refine D.nil ?_); refine AX.nilL ?_) | ((with_reducible refine D.load ?_); first | refine L.ldb U U U U U U ?_ | refine L.lda U U U U U ?_) | ((with_reducible refine D.move ?_); refine L.mv U U U ?_) | ((with_reducible refine D.assign ?_); refine L.asg U U U ?_) | ((with_reducible refine D.bin ?_); refine L.bn U U U U U ?_) | ((with_reducible refine D.call ?_); refine L.c2 (hc) U U U U ?_) | ((with_reducible refine D.alloc ?_); refine L.al U U U ?_) | ((with_reducible refine D.store ?_); refine L.st U U U U U U U U U ?_) | ((with_reducible refine D.indexAddr ?_); refine L.ixt _ U U U U U U U (by assumption) ?_) | ((with_reducible refine D.aw ?_); first | refine K.sq (AW.regL ?_) | refine AW.condF U ?_ | refine AW.skip ?_) | with_reducible refine K.tN ?_ | with_reducible refine K.bN ?_)
          exact ⟨rfl, all_step (p := fun t' => Fm.tyE (g ++ [f.ty]) t' = 0) hm hP hx, (Weak.mk [some 0] _ _ _ U U U U (by (repeat' (first | exact trivial | refine And.intro ?_ ?_ | refine ⟨_, U, _, U, ?_⟩ | exact VLe.refl _)); done) (by (repeat' (first | exact trivial | refine And.intro ?_ ?_ | refine ⟨_, U, _, U, _, U, ?_⟩ | exact VLe.refl _)); done))⟩
        · rw [he, firstI_at hm hP hx]
          repeat' (first | ((with_reducible refine D.nil ?_); refine AX.nilL ?_) | ((with_reducible refine D.load ?_); first | refine L.ldb U U U U U U ?_ | refine L.lda U U U U U ?_) | ((with_reducible refine D.move ?_); refine L.mv U U U ?_) | ((with_reducible refine D.assign ?_); refine L.asg U U U ?_) | ((with_reducible refine D.bin ?_); refine L.bn U U U U U ?_) | ((with_reducible refine D.call ?_); refine L.c2 (hc) U U U U ?_) | ((with_reducible refine D.alloc ?_); refine L.al U U U ?_) | ((with_reducible refine D.store ?_); refine L.st U U U U U U U U U ?_) | ((with_reducible refine D.indexAddr ?_); refine L.ixt _ U U U U U U U (by assumption) ?_) | ((with_reducible refine D.aw ?_); first | refine K.sq (AW.regL ?_) | refine AW.condS U (fun h => ?_) (fun h => ?_) | refine AW.skip ?_ | refine AW.ret ?_) | with_reducible refine K.tN ?_ | with_reducible refine K.bN ?_ | with_reducible refine K.tR ?_ | with_reducible refine K.bR ?_ | with_reducible refine K.gR ?_ | with_reducible refine K.r1 (by with_unfolding_all rfl) (by with_unfolding_all rfl) ?_)
          · rfl
          · exfalso; simp at h; exact hx h
      · intro hP
        rw [he, firstI_none fun j hj _ => hP j hj hj]
        repeat' (first | ((with_reducible refine D.nil ?_); refine AX.nilL ?_) | ((with_reducible refine D.assign ?_); refine L.asg U U U ?_) | ((with_reducible refine D.aw ?_); first | refine K.sq (AW.regL ?_) | refine AW.ret ?_) | with_reducible refine K.tN ?_ | with_reducible refine K.r1 (by with_unfolding_all rfl) (by with_unfolding_all rfl) ?_)
        rfl
    | false =>
      rw [hqk] at hq
      have hcx : ctxF g f = g := ctxF_n (by simp [hqk])
      obtain ⟨_, _, hcall⟩ := hrest g hcx.symm
      rw [hcx] at he
      repeat' (first | ((with_reducible refine D.nil ?_); refine AX.nilL ?_) | ((with_reducible refine D.load ?_); refine L.ldb U U U U U U ?_) | ((with_reducible refine D.move ?_); refine L.mv U U U ?_) | ((with_reducible refine D.fieldAddr ?_); refine L.fab U U U U U ?_) | ((with_reducible refine D.call ?_); first | refine L.lnt U U U U ?_ | refine L.c2 (hq) U U U U ?_) | ((with_reducible refine D.aw ?_); first | refine K.sq (K.sq ?_) | refine AW.regL ?_ | refine AW.condF U ?_ | refine AW.skip ?_) | with_reducible refine K.tN ?_)
      refine AW.range f.args.length (fun m => ∀ j (hj : j < f.args.length), j < m → f.args[j].tyE g = 0)
        (fun m => ([(0, .s .ty g), (3, .ptr 0 0), (46, .s .fm f.args), (47, .i f.args.length), (48, .i m)], ⟨1, [(0, .var f.view)]⟩))
        (by omega) (fun m => rfl) (fun m => rfl) U (fun j hj h => by omega) (Weak.mk [some 0] _ _ _ U U U U (by (repeat' (first | exact trivial | refine And.intro ?_ ?_ | refine ⟨_, U, _, U, ?_⟩ | exact VLe.refl _)); done) (by (repeat' (first | exact trivial | refine And.intro ?_ ?_ | refine ⟨_, U, _, U, _, U, ?_⟩ | exact VLe.refl _)); done)) ?_ ?_
      · intro m hm hP
        have hc := hcall m hm
        by_cases hx : f.args[m].tyE g = 0
        · rw [hx] at hc
          repeat' (first | ((with_reducible refine D.nil ?_); refine AX.nilL ?_) | ((with_reducible refine D.load ?_); first | refine L.ldb U U U U U U ?_ | refine L.lda U U U U U ?_) | ((with_reducible refine D.move ?_); refine L.mv U U U ?_) | ((with_reducible refine D.assign ?_); refine L.asg U U U ?_) | ((with_reducible refine D.bin ?_); refine L.bn U U U U U ?_) | ((with_reducible refine D.call ?_); refine L.c2 (hc) U U U U ?_) | ((with_reducible refine D.alloc ?_); refine L.al U U U ?_) | ((with_reducible refine D.store ?_); refine L.st U U U U U U U U U ?_) | ((with_reducible refine D.indexAddr ?_); refine L.ixt _ U U U U U U U (by assumption) ?_) | ((with_reducible refine D.aw ?_); first | refine K.sq (AW.regL ?_) | refine AW.condF U ?_ | refine AW.skip ?_) | with_reducible refine K.tN ?_ | with_reducible refine K.bN ?_)
          exact ⟨rfl, all_step (p := fun t' => Fm.tyE g t' = 0) hm hP hx, (Weak.mk [some 0] _ _ _ U U U U (by (repeat' (first | exact trivial | refine And.intro ?_ ?_ | refine ⟨_, U, _, U, ?_⟩ | exact VLe.refl _)); done) (by (repeat' (first | exact trivial | refine And.intro ?_ ?_ | refine ⟨_, U, _, U, _, U, ?_⟩ | exact VLe.refl _)); done))⟩
        · rw [he, firstI_at hm hP hx]
          repeat' (first | ((with_reducible refine D.nil ?_); refine AX.nilL ?_) | ((with_reducible refine D.load ?_); first | refine L.ldb U U U U U U ?_ | refine L.lda U U U U U ?_) | ((with_reducible refine D.move ?_); refine L.mv U U U ?_) | ((with_reducible refine D.assign ?_); refine L.asg U U U ?_) | ((with_reducible refine D.bin ?_); refine L.bn U U U U U ?_) | ((with_reducible refine D.call ?_); refine L.c2 (hc) U U U U ?_) | ((with_reducible refine D.alloc ?_); refine L.al U U U ?_) | ((with_reducible refine D.store ?_); refine L.st U U U U U U U U U ?_) | ((with_reducible refine D.indexAddr ?_); refine L.ixt _ U U U U U U U (by assumption) ?_) | ((with_reducible refine D.aw ?_); first | refine K.sq (AW.regL ?_) | refine AW.condS U (fun h => ?_) (fun h => ?_) | refine AW.skip ?_ | refine AW.ret ?_) | with_reducible refine K.tN ?_ | with_reducible refine K.bN ?_ | with_reducible refine K.tR ?_ | with_reducible refine K.bR ?_ | with_reducible refine K.gR ?_ | with_reducible refine K.r1 (by with_unfolding_all rfl) (by with_unfolding_all rfl) ?_)
          · rfl
          · exfalso; simp at h; exact hx h
      · intro hP
        rw [he, firstI_none fun j hj _ => hP j hj hj]
        repeat' (first | ((with_reducible refine D.nil ?_); refine AX.nilL ?_) | ((with_reducible refine D.assign ?_); refine L.asg U U U ?_) | ((with_reducible refine D.aw ?_); first | refine K.sq (AW.regL ?_) | refine AW.ret ?_) | with_reducible refine K.tN ?_ | with_reducible refine K.r1 (by with_unfolding_all rfl) (by with_unfolding_all rfl) ?_)
        rfl
theorem fBelow_c (g : List Ty) (f : Fm) (hf : f.full < 549755813888) (hg : ∀ x ∈ g, x.err = 0) (hgl : g.length < 90000) : PC E 79 [.s .ty g, .agg f.view] (.i (typedF g f)) := by
  have h1 := fcheckR_c f hf
  by_cases he : f.err = 0
  · have h2 := (Fm.err_iff f).1 he
    have h3 := ferr_full he
    have h4 := ftyped_c _ f g (Nat.le_refl _) (by omega) h2.1 hg (by omega) (by omega)
    have e : typedF g f = f.tyE g := by simp only [typedF]; rw [if_neg (by simp [he])]
    rw [he] at h1
    rw [e]
    refine AC.mk Tryz.func79 rfl rfl rfl rfl rfl (Nat.le_of_ble_eq_true rfl) ?_
    repeat' (first | ((with_reducible refine D.nil ?_); refine AX.nilL ?_) | ((with_reducible refine D.load ?_); refine L.ldb U U U U U U ?_) | ((with_reducible refine D.move ?_); refine L.mv U U U ?_) | ((with_reducible refine D.assign ?_); refine L.asg U U U ?_) | ((with_reducible refine D.bin ?_); refine L.bn U U U U U ?_) | ((with_reducible refine D.call ?_); first | refine L.c2 (h1) U U U U ?_ | refine L.c2 (h4) U U U U ?_) | ((with_reducible refine D.box ?_); refine L.bx U U U U ?_) | ((with_reducible refine D.aw ?_); first | refine K.sq (AW.regL ?_) | refine K.sq (K.sq ?_) | refine AW.regL ?_ | refine AW.condF U ?_ | refine AW.skip ?_ | refine AW.ret ?_) | with_reducible refine K.tN ?_ | with_reducible refine K.r1 (by with_unfolding_all rfl) (by with_unfolding_all rfl) ?_)
    rfl
  · have e : typedF g f = f.err := by simp only [typedF]; rw [if_pos he]
    rw [e]
    refine AC.mk Tryz.func79 rfl rfl rfl rfl rfl (Nat.le_of_ble_eq_true rfl) ?_
    repeat' (first | ((with_reducible refine D.nil ?_); refine AX.nilL ?_) | ((with_reducible refine D.load ?_); refine L.ldb U U U U U U ?_) | ((with_reducible refine D.move ?_); refine L.mv U U U ?_) | ((with_reducible refine D.assign ?_); refine L.asg U U U ?_) | ((with_reducible refine D.bin ?_); refine L.bn U U U U U ?_) | ((with_reducible refine D.call ?_); refine L.c2 (h1) U U U U ?_) | ((with_reducible refine D.box ?_); refine L.bx U U U U ?_) | ((with_reducible refine D.aw ?_); first | refine K.sq (AW.regL ?_) | refine K.sq (K.sq ?_) | refine AW.regL ?_ | refine AW.condS U (fun h => ?_) (fun h => ?_) | refine AW.skip ?_ | refine AW.ret ?_) | with_reducible refine K.tN ?_ | with_reducible refine K.tR ?_ | with_reducible refine K.r1 (by with_unfolding_all rfl) (by with_unfolding_all rfl) ?_)
    · rfl
    · exfalso; simp at h; exact he h
theorem fTyped_c (g : List Ty) (f : Fm) (hf : f.full < 549755813888) (hg : (g.map Ty.size).sum < 1099511627776) : PC E 33 [.s .ty g, .agg f.view] (.i (typedFC g f)) := by
  have h1 := contextR_c g hg
  by_cases he : ctxErr g = 0
  · have h2 := ctxErr_all he
    have h4 := fBelow_c g f hf h2.2 (by omega)
    have e : typedFC g f = typedF g f := by simp only [typedFC]; rw [if_neg (by simp [he])]
    rw [he] at h1
    rw [e]
    refine AC.mk Tryz.func33 rfl rfl rfl rfl rfl (Nat.le_of_ble_eq_true rfl) ?_
    repeat' (first | ((with_reducible refine D.nil ?_); refine AX.nilL ?_) | ((with_reducible refine D.load ?_); refine L.ldb U U U U U U ?_) | ((with_reducible refine D.move ?_); refine L.mv U U U ?_) | ((with_reducible refine D.assign ?_); refine L.asg U U U ?_) | ((with_reducible refine D.bin ?_); refine L.bn U U U U U ?_) | ((with_reducible refine D.call ?_); first | refine L.c2 (h1) U U U U ?_ | refine L.c2 (h4) U U U U ?_) | ((with_reducible refine D.box ?_); refine L.bx U U U U ?_) | ((with_reducible refine D.aw ?_); first | refine K.sq (AW.regL ?_) | refine K.sq (K.sq ?_) | refine AW.regL ?_ | refine AW.condF U ?_ | refine AW.skip ?_ | refine AW.ret ?_) | with_reducible refine K.tN ?_ | with_reducible refine K.r1 (by with_unfolding_all rfl) (by with_unfolding_all rfl) ?_)
    rfl
  · have e : typedFC g f = ctxErr g := by simp only [typedFC]; rw [if_pos he]
    rw [e]
    refine AC.mk Tryz.func33 rfl rfl rfl rfl rfl (Nat.le_of_ble_eq_true rfl) ?_
    repeat' (first | ((with_reducible refine D.nil ?_); refine AX.nilL ?_) | ((with_reducible refine D.load ?_); refine L.ldb U U U U U U ?_) | ((with_reducible refine D.move ?_); refine L.mv U U U ?_) | ((with_reducible refine D.assign ?_); refine L.asg U U U ?_) | ((with_reducible refine D.bin ?_); refine L.bn U U U U U ?_) | ((with_reducible refine D.call ?_); refine L.c2 (h1) U U U U ?_) | ((with_reducible refine D.box ?_); refine L.bx U U U U ?_) | ((with_reducible refine D.aw ?_); first | refine K.sq (AW.regL ?_) | refine K.sq (K.sq ?_) | refine AW.regL ?_ | refine AW.condS U (fun h => ?_) (fun h => ?_) | refine AW.skip ?_ | refine AW.ret ?_) | with_reducible refine K.tN ?_ | with_reducible refine K.tR ?_ | with_reducible refine K.r1 (by with_unfolding_all rfl) (by with_unfolding_all rfl) ?_)
    · rfl
    · exfalso; simp at h; exact he h
end Go.Ab
namespace Go.Ab
open Go Go.Proofs
set_option maxRecDepth 100000
set_option maxHeartbeats 4000000
set_option linter.all false
theorem putG_node {at_ b : Int} {s t : Tm} (h : t.kind ≠ 1) : t.re (putG at_ s) b = .mk t.kind t.index t.ty (t.args.map fun x => x.re (putG at_ s) (up t.kind b)) := re_node h
theorem rin_c (at_ : Int) (s : Tm) (hat : 0 ≤ at_ ∧ at_ < 137438953472) (hs : s.shape = true) (hsf : s.full < 137438953472) (hsi : ∀ p ∈ s.vars 0, 0 ≤ p.1 ∧ p.1 < 274877906944) : ∀ (n : Nat) (t : Tm) (dp : Int), t.full ≤ n → n < 137438953472 → 0 ≤ dp → dp + n < 274877906944 → t.shape = true → (∀ p ∈ t.vars 0, 0 ≤ p.1 ∧ p.1 < 274877906944) →
    PC E 125 [.agg t.view, .i at_, .i dp, .agg s.view] (.agg (t.re (putG at_ s) dp).view) := by
  intro n
  induction n with
  | zero => intro t dp h; have := t.full_pos; omega
  | succ n ih =>
  intro t dp hsz hn h1 h2 ht hix
  have hsz' := Tm.full_eq t
  have hlen := lsum_len Tm.full Tm.full_pos t.args
  have hup := up_bd t.kind dp
  have hpl := up_plus t.kind dp
  have hb := rbelow_c t
  by_cases hv : t.kind = 1
  · have hti := hix (t.index, 0) (by rw [vars_var ht hv]; simp)
    rw [var_vT ht hv]
    generalize t.index = i at hti
    simp only at hti
    rw [re_vT, putG_eq]
    have hvi : (vT i).index = i := rfl
    have hu := rup_c (at_ + dp) (by omega) _ s 0 (Nat.le_refl _) (by omega) (by omega) (by omega) hs fun p hp => by have := hsi p hp; omega
    have hvc := var_c (i - 1)
    clear ih hix
    by_cases h3 : i - dp = at_
    · rw [if_pos h3]
      have h3' : i = at_ + dp := by omega
      subst h3'
      refine AC.mk Tryz.func125 rfl rfl rfl rfl rfl (Nat.le_of_ble_eq_true rfl) ?_
      repeat' (first | ((with_reducible refine D.nil ?_); refine AX.nilL ?_) | ((with_reducible refine D.load ?_); refine L.ldb U U U U U U ?_) | ((with_reducible refine D.move ?_); refine L.mv U U U ?_) | ((with_reducible refine D.fieldAddr ?_); refine L.fab U U U U U ?_) | ((with_reducible refine D.bin ?_); first | refine L.ad U U U U (by omega) ?_ | refine L.bn U U U U U ?_) | ((with_reducible refine D.call ?_); refine L.c2 (hu) U U U U ?_) | ((with_reducible refine D.box ?_); refine L.bx U U U U ?_) | ((with_reducible refine D.alloc ?_); refine L.al U U U ?_) | ((with_reducible refine D.store ?_); refine L.st U U U U U U U U U ?_) | ((with_reducible refine D.aw ?_); (fail_if_success with_reducible refine D.stopR (id := 4) ?_); (fail_if_success with_reducible refine D.stopS (id := 4) ?_); first | refine K.sq (AW.regL ?_) | refine K.sq (K.sq ?_) | refine AW.regL ?_ | refine AW.condT U ?_ | refine AW.condS U (fun h => ?_) (fun h => ?_) | refine AW.skip ?_ | refine AW.ret ?_) | with_reducible refine K.tN ?_ | with_reducible refine K.tR ?_ | with_reducible refine K.r1 (by with_unfolding_all rfl) (by with_unfolding_all rfl) ?_)
      all_goals first
        | rfl
        | (exfalso; simp at h; done)
        | (exfalso; simp at h; omega)
    · rw [if_neg h3]
      by_cases h4 : i - dp > at_
      · rw [if_pos h4]
        refine AC.mk Tryz.func125 rfl rfl rfl rfl rfl (Nat.le_of_ble_eq_true rfl) ?_
        repeat' (first | ((with_reducible refine D.nil ?_); refine AX.nilL ?_) | ((with_reducible refine D.load ?_); refine L.ldb U U U U U U ?_) | ((with_reducible refine D.move ?_); refine L.mv U U U ?_) | ((with_reducible refine D.fieldAddr ?_); refine L.fab U U U U U ?_) | ((with_reducible refine D.bin ?_); first | refine L.ad U U U U (by omega) ?_ | refine L.bn U U U U U ?_) | ((with_reducible refine D.box ?_); refine L.bx U U U U ?_) | ((with_reducible refine D.alloc ?_); refine L.al U U U ?_) | ((with_reducible refine D.aw ?_); (fail_if_success with_reducible refine D.stopR (id := 3) ?_); (fail_if_success with_reducible refine D.stopS (id := 3) ?_); (fail_if_success with_reducible refine D.stopR (id := 5) ?_); (fail_if_success with_reducible refine D.stopS (id := 5) ?_); (fail_if_success with_reducible refine D.stopR (id := 6) ?_); (fail_if_success with_reducible refine D.stopS (id := 6) ?_); first | refine K.sq (AW.regL ?_) | refine K.sq (K.sq ?_) | refine AW.regL ?_ | refine AW.condT U ?_ | refine AW.condS U (fun h => ?_) (fun h => ?_) | refine AW.skip ?_) | with_reducible refine K.tN ?_)
        all_goals first
          | (exfalso; simp at h; omega)
          | skip
        repeat' (first | ((with_reducible refine D.nil ?_); refine AX.nilL ?_) | ((with_reducible refine D.load ?_); refine L.ldb U U U U U U ?_) | ((with_reducible refine D.fieldAddr ?_); refine L.fab U U U U U ?_) | ((with_reducible refine D.bin ?_); refine L.sb U U U U (by omega) ?_) | ((with_reducible refine D.call ?_); refine L.c2 (hvc) U U U U ?_) | ((with_reducible refine D.store ?_); refine L.st U U U U U U U U U ?_) | ((with_reducible refine D.aw ?_); first | refine K.sq (AW.regL ?_) | refine AW.ret ?_) | with_reducible refine K.tN ?_ | with_reducible refine K.tR ?_ | with_reducible refine K.r1 (by with_unfolding_all rfl) (by with_unfolding_all rfl) ?_)
        rfl
      · rw [if_neg h4]
        refine AC.mk Tryz.func125 rfl rfl rfl rfl rfl (Nat.le_of_ble_eq_true rfl) ?_
        repeat' (first | ((with_reducible refine D.nil ?_); refine AX.nilL ?_) | ((with_reducible refine D.load ?_); refine L.ldb U U U U U U ?_) | ((with_reducible refine D.move ?_); refine L.mv U U U ?_) | ((with_reducible refine D.fieldAddr ?_); refine L.fab U U U U U ?_) | ((with_reducible refine D.bin ?_); first | refine L.ad U U U U (by omega) ?_ | refine L.bn U U U U U ?_) | ((with_reducible refine D.box ?_); refine L.bx U U U U ?_) | ((with_reducible refine D.alloc ?_); refine L.al U U U ?_) | ((with_reducible refine D.aw ?_); (fail_if_success with_reducible refine D.stopR (id := 3) ?_); (fail_if_success with_reducible refine D.stopS (id := 3) ?_); (fail_if_success with_reducible refine D.stopR (id := 5) ?_); (fail_if_success with_reducible refine D.stopS (id := 5) ?_); (fail_if_success with_reducible refine D.stopR (id := 6) ?_); (fail_if_success with_reducible refine D.stopS (id := 6) ?_); first | refine K.sq (AW.regL ?_) | refine K.sq (K.sq ?_) | refine AW.regL ?_ | refine AW.condT U ?_ | refine AW.condS U (fun h => ?_) (fun h => ?_) | refine AW.skip ?_) | with_reducible refine K.tN ?_)
        all_goals first
          | (exfalso; simp at h; omega)
          | skip
        repeat' (first | ((with_reducible refine D.nil ?_); refine AX.nilL ?_) | ((with_reducible refine D.load ?_); refine L.ldb U U U U U U ?_) | ((with_reducible refine D.store ?_); refine L.st U U U U U U U U U ?_) | ((with_reducible refine D.aw ?_); first | refine K.sq (AW.regL ?_) | refine AW.ret ?_) | with_reducible refine K.tN ?_ | with_reducible refine K.tR ?_ | with_reducible refine K.r1 (by with_unfolding_all rfl) (by with_unfolding_all rfl) ?_)
        rfl
  have he := putG_node (at_ := at_) (b := dp) (s := s) hv
  refine AC.mk Tryz.func125 rfl rfl rfl rfl rfl (Nat.le_of_ble_eq_true rfl) ?_
  repeat' (first | ((with_reducible refine D.nil ?_); refine AX.nilL ?_) | ((with_reducible refine D.load ?_); refine L.ldb U U U U U U ?_) | ((with_reducible refine D.move ?_); refine L.mv U U U ?_) | ((with_reducible refine D.fieldAddr ?_); refine L.fab U U U U U ?_) | ((with_reducible refine D.bin ?_); refine L.bn U U U U U ?_) | ((with_reducible refine D.call ?_); refine L.lnt U U U U ?_) | ((with_reducible refine D.box ?_); refine L.bx U U U U ?_) | ((with_reducible refine D.alloc ?_); refine L.al U U U ?_) | ((with_reducible refine D.store ?_); refine L.st U U U U U U U U U ?_) | ((with_reducible refine D.ax ?_); refine L.bd U U U U U ?_) | ((with_reducible refine D.aw ?_); (fail_if_success with_reducible refine D.stopR (id := 2) ?_); (fail_if_success with_reducible refine D.stopS (id := 2) ?_); first | refine K.sq (AW.regL ?_) | refine K.sq (K.sq ?_) | refine AW.regL ?_ | refine AW.condS U (fun h => ?_) (fun h => ?_) | refine AW.skip ?_) | with_reducible refine K.tN ?_)
  all_goals first
    | (exfalso; simp at h; exact hv h)
    | skip
  skip
  refine AW.range t.args.length (fun m => True) (fun m => ([(1, .i at_), (2, .i dp), (4, .ptr 0 0), (7, .ptr 1 0), (8, .ptr 2 0), (9, .ptr 3 0), (45, .s .tm t.args), (46, .i t.args.length), (47, .i m)], ⟨5, [(0, .var t.view), (1, .var s.view), (2, .var [.i 0, .i 0, .i 0, .slice .nil (.t .ty []), .slice .nil (.t .tm [])]), (3, .var [.i t.kind, .i t.index, .i t.ty.kind, .s .ty t.ty.args, .slice (.own 4) (.t .tm ((t.args.take m).map fun x => x.re (putG at_ s) (up t.kind dp)))]), (4, .row)]⟩))
    (by omega) (fun m => rfl) (fun m => rfl) U trivial (Weak.mk [some 0, some 1, some 2, some 3, none] _ _ _ U U U U (by (repeat' (first | exact trivial | refine And.intro ?_ ?_ | refine ⟨_, U, _, U, ?_⟩ | exact VLe.refl _)); done) (by (repeat' (first | exact trivial | exact Or.inl U | refine And.intro ?_ ?_ | refine ⟨_, U, _, U, _, U, ?_⟩ | exact VLe.refl _)); done)) ?_ ?_
  · intro m hm _
    have hs2 := lsum_mem Tm.full (List.getElem_mem hm)
    have hc := ih t.args[m] (up t.kind dp) (by omega) (by omega) (by omega) (by omega) (shape_args ht _ (List.getElem_mem hm)) (fun p hp => by
      obtain ⟨q, hq, hqe⟩ := vars_idx (b' := up t.kind 0) p hp
      have := hix q (mem_vars hv (List.getElem_mem hm) hq)
      rw [← hqe]; exact this)
    rw [← hpl] at hc
    simp only [← hpl]
    repeat' (first | ((with_reducible refine D.nil ?_); first | refine AX.nilL ?_ | refine AX.nilD (by kernel_rfl) ?_) | ((with_reducible refine D.load ?_); first | refine L.ldb U U U U U U ?_ | refine L.lda U U U U U ?_) | ((with_reducible refine D.move ?_); refine L.mv U U U ?_) | ((with_reducible refine D.fieldAddr ?_); refine L.fab U U U U U ?_) | ((with_reducible refine D.bin ?_); refine L.ad U U U U (by omega) ?_) | ((with_reducible refine D.call ?_); first | refine L.apt U U U U U U (by first | exact trivial | exact ⟨rfl, trivial⟩) U U (by first | omega | (simp; omega)) ?_ | refine L.c2 (hb) U U U U ?_ | refine L.c2 (hc) U U U U ?_) | ((with_reducible refine D.alloc ?_); refine L.al U U U ?_) | ((with_reducible refine D.store ?_); refine L.st U U U U U U U U U ?_) | ((with_reducible refine D.indexAddr ?_); refine L.ixt _ U U U U U U U (by assumption) ?_) | ((with_reducible refine D.ax ?_); refine L.bs1 U U U U U (EC.fold_of U) U U ?_) | ((with_reducible refine D.aw ?_); first | refine K.sq (AW.regL ?_) | refine AW.regD mixed (by kernel_rfl) ?_) | with_reducible refine K.tN ?_ | with_reducible refine K.bN ?_)
    exact ⟨rfl, trivial, (Weak.mk [some 0, some 1, some 2, some 3, some 6] _ _ _ U U U U (by (repeat' (first | exact trivial | refine And.intro ?_ ?_ | refine ⟨_, U, _, U, ?_⟩ | exact VLe.refl _)); done) (by (repeat' (first | exact trivial | exact Or.inr ⟨_, U, rfl⟩ | refine And.intro ?_ ?_ | refine ⟨_, U, _, U, _, U, ?_⟩ | exact VLe.refl _ | exact VLe.of_eq (by simp [Sto.upd, map_take _ _ _ hm]))); done))⟩
  · intro _
    simp only [List.take_length]
    repeat' (first | ((with_reducible refine D.nil ?_); refine AX.nilL ?_) | ((with_reducible refine D.load ?_); refine L.ldb U U U U U U ?_) | ((with_reducible refine D.store ?_); refine L.st U U U U U U U U U ?_) | ((with_reducible refine D.aw ?_); first | refine K.sq (AW.regL ?_) | refine AW.ret ?_) | with_reducible refine K.tN ?_ | with_reducible refine K.r1 (by with_unfolding_all rfl) (by with_unfolding_all rfl) ?_)
    rw [he]
    simp [tupV, V.wk, V.wks, constV, Ty.view, Tm.view]
theorem near_all {t : Tm} (h : t.near = true) : ∀ q ∈ t.vars 0, q.1 ≤ 536870912 := fun q hq => by simpa using List.all_eq_true.1 h q hq
end Go.Ab
