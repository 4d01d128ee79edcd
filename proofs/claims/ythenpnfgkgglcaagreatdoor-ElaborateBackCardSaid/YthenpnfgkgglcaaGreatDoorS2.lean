/- A part of the proofs of this seat's statements: S20, S21, S22, S26, S30, S31, S41, S42, S43, S44, S45, S46, S47, S54, S55. It has no conditions of its own. -/
import Derived.Test.YthenpnfgkgglcaaGreatDoorS1
import Derived.Test.YthenpnfgkgglcaaGreatDoorD1
import Derived.Test.YthenpnfgkgglcaaGreatDoorA2
namespace Go.Ab
open Go Go.Proofs
set_option maxRecDepth 100000
set_option maxHeartbeats 4000000
set_option linter.all false
theorem numOf_full (d : Dk) : (numOf (d.next 3).1).full ≤ 6 := by
  obtain ⟨m, hm, e⟩ := numOf_lt d
  rw [e, numT_full]; omega
theorem smalls_sum {g : List Ty} (h : smalls g) : (g.map Ty.size).sum ≤ 3 * g.length := by
  induction g with
  | nil => simp
  | cons t l ih =>
    have h1 := (h t (by simp)).2
    have h2 := ih fun x hx => h x (by simp [hx])
    simp only [List.map_cons, List.sum_cons, List.length_cons]; omega
theorem findF_none' {g : List Ty} {t : Ty} (h : ∀ j, j < g.length → isFn g t j = false) : findF g t = none := by
  simp only [findF, List.find?_eq_none, List.mem_range]
  intro j hj; simp [h j hj]
theorem findF_at {g : List Ty} {t : Ty} {m : Nat} (hm : m < g.length) (h : ∀ j, j < m → isFn g t j = false) (h1 : isFn g t m = true) : findF g t = some m := by
  simp only [findF, List.find?_range_eq_some, List.mem_range]
  exact ⟨h1, hm, fun j hj => by simp [h j hj]⟩
theorem mid_c (n : Nat) (H : HT n) (hn : n ≤ 7) (depth : Int) (hdep : depth = (n : Int) - 1) (d : Dk) (hd : d.ok) (g : List Ty) (t : Ty) (hg : smalls g) (ht : t.small) (h0 : n = 0 → t.size = 1) (hl : g.length + 3 * (n + 1) ≤ 10000) :
    AW E Tryz.f28.ntmps 1 (partAt [1, 1, 1] (bodyOf Tryz.f28)) [(0, .ptr 0 0), (1, .s .ty g), (3, .i depth), (6, .ptr 1 0), (8, .ptr 2 0)]
      ⟨3, [(0, .var d.cells), (1, .var t.view), (2, .var [.i 0, .i 0, .i 0, .slice .nil (.t .ty []), .slice .nil (.t .tm [])])]⟩
      (retQ E 1 Tryz.f28.results.toList (.agg (d.mid (Dk.tm n) (decide (2 ≤ n)) g t).1.view) ⟨1, [(0, .var (d.mid (Dk.tm n) (decide (2 ≤ n)) g t).2.cells)]⟩) := by
  have hok : ∀ d g t, d.ok → (Dk.tm n d g t).2.ok := fun d g t h => Dk.tm_ok n d g t h
  by_cases hp : 2 ≤ n
  case neg =>
    have hp' : ¬ depth > 0 := by omega
    have e : d.mid (Dk.tm n) (decide (2 ≤ n)) g t = d.fin (Dk.tm n) (decide (2 ≤ n)) g t := by simp [Dk.mid, hp]
    show AW _ _ _ (Code.seq _ _) _ _ _
    repeat' (first | ((with_reducible refine D.nil ?_); refine AX.nilL ?_) | ((with_reducible refine D.move ?_); refine L.mv rfl rfl rfl ?_) | ((with_reducible refine D.bin ?_); refine L.bn rfl rfl rfl rfl rfl ?_) | ((with_reducible refine D.aw ?_); (fail_if_success with_reducible refine D.stopR (id := 29) ?_); (fail_if_success with_reducible refine D.stopS (id := 29) ?_); first | refine K.sq (AW.regL ?_) | refine K.sq (K.sq ?_) | refine AW.regL ?_ | refine AW.condS rfl (fun h => ?_) (fun h => ?_) | refine AW.skip ?_) | with_reducible refine K.tN ?_)
    · exact absurd (by simpa using h) hp'
    · rw [e]; exact AW.weak (Weak.mk [some 0, some 1, some 2] _ _ _ rfl rfl rfl rfl (by (repeat' (first | exact trivial | refine And.intro ?_ ?_ | refine ⟨_, rfl, _, rfl, ?_⟩ | exact VLe.refl _)); done) (by (repeat' (first | exact trivial | refine And.intro ?_ ?_ | refine ⟨_, rfl, _, rfl, _, rfl, ?_⟩ | exact VLe.refl _)); done)) (fin_c n H hn depth hdep d hd g t hg ht h0 hl)
  have hp' : depth > 0 := by omega
  have hx8 := next_c d 8 hd (by omega)
  have e := Dk.mid_pos (rec := Dk.tm n) (d := d) (g := g) (t := t) (pos := decide (2 ≤ n)) (by simpa using hp)
  have hD := Dk.next_ok hd 8
  have tp : AC E 27 [.ptr 0 0, .i 0] ⟨1, [(0, .var (d.next 8).2.cells)]⟩ (.agg ((d.next 8).2.type 0).1.view) ⟨1, [(0, .var ((d.next 8).2.type 0).2.cells)]⟩ := type_c 0 0 (d.next 8).2 (by omega) (by omega) (by omega) hD
  have hS := Dk.type0 (d.next 8).2
  have hD1 := Dk.type_ok 0 _ hD
  generalize (d.next 8).1 = kk at *
  generalize (d.next 8).2 = W at *
  generalize (W.type 0).1 = S at *
  generalize (W.type 0).2 = D1 at *
  have hSs := small_one hS.1 hS.2
  have hF : ∀ d g t, smalls g → t.small → (Dk.tm n d g t).1.full ≤ 50000 := fun d g t hg ht => tm_full hn d hg ht (by omega) (by omega)
  have hH : ∀ d g t, d.ok → smalls g → t.small → g.length + 3 * n ≤ 10000 → AC E 28 [.ptr 0 0, .s .ty g, .agg t.view, .i (depth - 1)] ⟨1, [(0, .var d.cells)]⟩ (.agg (Dk.tm n d g t).1.view) ⟨1, [(0, .var (Dk.tm n d g t).2.cells)]⟩ :=
    fun d g t h1 h2 h3 h4 => H d g t (depth - 1) (by omega) h1 h2 h3 (by omega) (by omega) h4
  have hts := ht.2
  have ht1 : t.size < 1000000 := by omega
  have gS := smalls_app hg (smalls_cons hSs smalls_nil)
  have g2 := smalls_app hg (smalls_cons small_nat (smalls_cons ht smalls_nil))
  have g3 := smalls_app hg (smalls_cons small_nat (smalls_cons small_list (smalls_cons ht smalls_nil)))
  show AW _ _ _ (Code.seq _ _) _ _ _
  by_cases k0 : kk = 0
  · subst k0
    simp only [if_true] at e
    have a := hH D1 (g ++ [S]) t hD1 gS ht (by simp; omega)
    have b := hH _ g S (hok _ (g ++ [S]) t hD1) hg hSs (by omega)
    have fa := hF D1 (g ++ [S]) t gS ht
    have fb := hF (Dk.tm n D1 (g ++ [S]) t).2 g S hg hSs
    have lo := longer_c g [S] (by simp; omega)
    have c1 := t_c 2 S [(Dk.tm n D1 (g ++ [S]) t).1] (by simp; omega) (by omega)
    have c2 := n_c 3 [lmT S (Dk.tm n D1 (g ++ [S]) t).1, (Dk.tm n (Dk.tm n D1 (g ++ [S]) t).2 g S).1] (by simp [lmT, Tm.full, Tm.fulls]; omega)
    repeat' (first | ((with_reducible refine D.nil ?_); first | refine AX.nilL ?_ | refine AX.nilD (by kernel_rfl) ?_) | ((with_reducible refine D.load ?_); refine L.ldb rfl rfl rfl rfl rfl rfl ?_) | ((with_reducible refine D.move ?_); refine L.mv rfl rfl rfl ?_) | ((with_reducible refine D.assign ?_); refine L.asg rfl rfl rfl ?_) | ((with_reducible refine D.bin ?_); first | refine L.sb rfl rfl rfl rfl (by omega) ?_ | refine L.bn rfl rfl rfl rfl rfl ?_) | ((with_reducible refine D.call ?_); first | (apply L.cb2 (hx8) [0] 0 rfl; rfl; rfl; rfl; rfl; rfl; rfl; (focus ((repeat' (first | exact trivial | refine And.intro ?_ ?_ | refine ⟨_, rfl, _, rfl, _, rfl, ?_⟩ | exact VLe.refl _)); done)); rfl; rfl; rfl; rfl) | (apply L.cb2 (tp) [0] 0 rfl; rfl; rfl; rfl; rfl; rfl; rfl; (focus ((repeat' (first | exact trivial | refine And.intro ?_ ?_ | refine ⟨_, rfl, _, rfl, _, rfl, ?_⟩ | exact VLe.refl _)); done)); rfl; rfl; rfl; rfl) | (apply L.cb2 (a) [0] 0 rfl; rfl; rfl; rfl; rfl; rfl; rfl; (focus ((repeat' (first | exact trivial | refine And.intro ?_ ?_ | refine ⟨_, rfl, _, rfl, _, rfl, ?_⟩ | exact VLe.refl _)); done)); rfl; rfl; rfl; rfl) | (apply L.cb2 (b) [0] 0 rfl; rfl; rfl; rfl; rfl; rfl; rfl; (focus ((repeat' (first | exact trivial | refine And.intro ?_ ?_ | refine ⟨_, rfl, _, rfl, _, rfl, ?_⟩ | exact VLe.refl _)); done)); rfl; rfl; rfl; rfl) | refine L.c2 (lo) rfl rfl rfl rfl ?_ | refine L.c2 (c1) rfl rfl rfl rfl ?_ | refine L.c2 (c2) rfl rfl rfl rfl ?_) | ((with_reducible refine D.alloc ?_); refine L.al rfl rfl rfl ?_) | ((with_reducible refine D.store ?_); refine L.st rfl rfl rfl rfl rfl rfl rfl rfl rfl ?_) | ((with_reducible refine D.ax ?_); first | refine L.bs1 rfl rfl rfl rfl rfl (EC.fold_of rfl) rfl rfl ?_ | refine L.bs2 rfl rfl rfl rfl rfl (EC.fold_of rfl) rfl rfl rfl (EC.fold_of rfl) rfl rfl ?_) | ((with_reducible refine D.aw ?_); (fail_if_success with_reducible refine D.stopR (id := 29) ?_); (fail_if_success with_reducible refine D.stopS (id := 29) ?_); first | ((with_reducible refine D.blk ?_); refine AW.block ?_) | refine K.sq (AW.regL ?_) | refine K.sq (AW.regD mixed (by kernel_rfl) ?_) | refine K.sq (K.sq ?_) | refine AW.regL ?_ | refine AW.condT rfl ?_ | refine AW.condS rfl (fun h => ?_) (fun h => ?_) | refine AW.skip ?_ | refine AW.ret ?_) | with_reducible refine K.tN ?_ | with_reducible refine K.tR ?_ | with_reducible refine K.bR ?_)
    · (exact K.n2 [some 0] rfl rfl rfl rfl rfl (by (repeat' (first | exact trivial | refine And.intro ?_ ?_ | refine ⟨_, rfl, _, rfl, _, rfl, ?_⟩ | exact VLe.of_eq (by simp [Sto.upd, e, Dk.m0, apT]))); done) rfl (by simp [tupV, V.wk, V.wks, constV, Ty.view, Tm.view, e, Dk.m0, apT]))
    · exact absurd hp' (by simpa using h)
  rw [if_neg k0] at e
  by_cases k1 : kk = 1
  · subst k1
    rw [if_pos rfl] at e
    have a := hH D1 g t hD1 hg ht (by omega)
    have b := hH _ g S (hok _ g t hD1) hg hSs (by omega)
    have fa := hF D1 g t hg ht
    have fb := hF (Dk.tm n D1 g t).2 g S hg hSs
    have c1 := n_c 10 [(Dk.tm n D1 g t).1, (Dk.tm n (Dk.tm n D1 g t).2 g S).1] (by simp; omega)
    have c2 := n_c 11 [nT 10 [(Dk.tm n D1 g t).1, (Dk.tm n (Dk.tm n D1 g t).2 g S).1]] (by simp [nT, Tm.full, Tm.fulls, Ty.size, Ty.sizes]; omega)
    repeat' (first | ((with_reducible refine D.nil ?_); first | refine AX.nilL ?_ | refine AX.nilD (by kernel_rfl) ?_) | ((with_reducible refine D.load ?_); refine L.ldb rfl rfl rfl rfl rfl rfl ?_) | ((with_reducible refine D.move ?_); refine L.mv rfl rfl rfl ?_) | ((with_reducible refine D.assign ?_); refine L.asg rfl rfl rfl ?_) | ((with_reducible refine D.bin ?_); first | refine L.sb rfl rfl rfl rfl (by omega) ?_ | refine L.bn rfl rfl rfl rfl rfl ?_) | ((with_reducible refine D.call ?_); first | (apply L.cb2 (hx8) [0] 0 rfl; rfl; rfl; rfl; rfl; rfl; rfl; (focus ((repeat' (first | exact trivial | refine And.intro ?_ ?_ | refine ⟨_, rfl, _, rfl, _, rfl, ?_⟩ | exact VLe.refl _)); done)); rfl; rfl; rfl; rfl) | (apply L.cb2 (tp) [0] 0 rfl; rfl; rfl; rfl; rfl; rfl; rfl; (focus ((repeat' (first | exact trivial | refine And.intro ?_ ?_ | refine ⟨_, rfl, _, rfl, _, rfl, ?_⟩ | exact VLe.refl _)); done)); rfl; rfl; rfl; rfl) | (apply L.cb2 (a) [0] 0 rfl; rfl; rfl; rfl; rfl; rfl; rfl; (focus ((repeat' (first | exact trivial | refine And.intro ?_ ?_ | refine ⟨_, rfl, _, rfl, _, rfl, ?_⟩ | exact VLe.refl _)); done)); rfl; rfl; rfl; rfl) | (apply L.cb2 (b) [0] 0 rfl; rfl; rfl; rfl; rfl; rfl; rfl; (focus ((repeat' (first | exact trivial | refine And.intro ?_ ?_ | refine ⟨_, rfl, _, rfl, _, rfl, ?_⟩ | exact VLe.refl _)); done)); rfl; rfl; rfl; rfl) | refine L.c2 (c1) rfl rfl rfl rfl ?_ | refine L.c2 (c2) rfl rfl rfl rfl ?_) | ((with_reducible refine D.alloc ?_); refine L.al rfl rfl rfl ?_) | ((with_reducible refine D.store ?_); refine L.st rfl rfl rfl rfl rfl rfl rfl rfl rfl ?_) | ((with_reducible refine D.ax ?_); first | refine L.bs1 rfl rfl rfl rfl rfl (EC.fold_of rfl) rfl rfl ?_ | refine L.bs2 rfl rfl rfl rfl rfl (EC.fold_of rfl) rfl rfl rfl (EC.fold_of rfl) rfl rfl ?_) | ((with_reducible refine D.aw ?_); (fail_if_success with_reducible refine D.stopR (id := 29) ?_); (fail_if_success with_reducible refine D.stopS (id := 29) ?_); first | ((with_reducible refine D.blk ?_); refine AW.block ?_) | refine K.sq (AW.regL ?_) | refine K.sq (AW.regD mixed (by kernel_rfl) ?_) | refine K.sq (K.sq ?_) | refine AW.regL ?_ | refine AW.condT rfl ?_ | refine AW.condF rfl ?_ | refine AW.condS rfl (fun h => ?_) (fun h => ?_) | refine AW.skip ?_ | refine AW.ret ?_) | with_reducible refine K.tN ?_ | with_reducible refine K.tR ?_ | with_reducible refine K.bR ?_)
    · (exact K.n2 [some 0] rfl rfl rfl rfl rfl (by (repeat' (first | exact trivial | refine And.intro ?_ ?_ | refine ⟨_, rfl, _, rfl, _, rfl, ?_⟩ | exact VLe.of_eq (by simp [Sto.upd, e, Dk.m1, nT]))); done) rfl (by simp [tupV, V.wk, V.wks, constV, Ty.view, Tm.view, e, Dk.m1, nT]))
    · exact absurd hp' (by simpa using h)
  rw [if_neg k1] at e
  by_cases k2 : kk = 2
  · subst k2
    rw [if_pos rfl] at e
    have a := hH W (g ++ [natT, t]) t hD g2 ht (by simp; omega)
    have b := hH _ g t (hok _ (g ++ [natT, t]) t hD) hg ht (by omega)
    have hdb := hok _ g t (hok _ (g ++ [natT, t]) t hD)
    have fa := hF W (g ++ [natT, t]) t g2 ht
    have fb := hF (Dk.tm n W (g ++ [natT, t]) t).2 g t hg ht
    have lo := longer_c g [natT, t] (by simp; omega)
    have nx := next_c _ 3 hdb (by omega)
    have nu := num_c ((Dk.tm n (Dk.tm n W (g ++ [natT, t]) t).2 g t).2.next 3).1
    have fn := numOf_full (Dk.tm n (Dk.tm n W (g ++ [natT, t]) t).2 g t).2
    have en : natT.size = 1 := rfl
    have c1 := t_c 2 t [(Dk.tm n W (g ++ [natT, t]) t).1] (by simp; omega) (by omega)
    have c2 := t_c 2 natT [lmT t (Dk.tm n W (g ++ [natT, t]) t).1] (by simp [lmT, Tm.full, Tm.fulls]; omega) (by omega)
    have c3 := t_c 6 t [(Dk.tm n (Dk.tm n W (g ++ [natT, t]) t).2 g t).1, lmT natT (lmT t (Dk.tm n W (g ++ [natT, t]) t).1), numOf ((Dk.tm n (Dk.tm n W (g ++ [natT, t]) t).2 g t).2.next 3).1] (by simp [lmT, Tm.full, Tm.fulls]; omega) (by omega)
    repeat' (first | ((with_reducible refine D.nil ?_); first | refine AX.nilL ?_ | refine AX.nilD (by kernel_rfl) ?_) | ((with_reducible refine D.load ?_); refine L.ldb rfl rfl rfl rfl rfl rfl ?_) | ((with_reducible refine D.move ?_); refine L.mv rfl rfl rfl ?_) | ((with_reducible refine D.assign ?_); refine L.asg rfl rfl rfl ?_) | ((with_reducible refine D.bin ?_); first | refine L.sb rfl rfl rfl rfl (by omega) ?_ | refine L.bn rfl rfl rfl rfl rfl ?_) | ((with_reducible refine D.call ?_); first | refine L.c2 (nat_c) rfl rfl rfl rfl ?_ | (apply L.cb2 (hx8) [0] 0 rfl; rfl; rfl; rfl; rfl; rfl; rfl; (focus ((repeat' (first | exact trivial | refine And.intro ?_ ?_ | refine ⟨_, rfl, _, rfl, _, rfl, ?_⟩ | exact VLe.refl _)); done)); rfl; rfl; rfl; rfl) | (apply L.cb2 (a) [0] 0 rfl; rfl; rfl; rfl; rfl; rfl; rfl; (focus ((repeat' (first | exact trivial | refine And.intro ?_ ?_ | refine ⟨_, rfl, _, rfl, _, rfl, ?_⟩ | exact VLe.refl _)); done)); rfl; rfl; rfl; rfl) | (apply L.cb2 (b) [0] 0 rfl; rfl; rfl; rfl; rfl; rfl; rfl; (focus ((repeat' (first | exact trivial | refine And.intro ?_ ?_ | refine ⟨_, rfl, _, rfl, _, rfl, ?_⟩ | exact VLe.refl _)); done)); rfl; rfl; rfl; rfl) | refine L.c2 (lo) rfl rfl rfl rfl ?_ | (apply L.cb2 (nx) [0] 0 rfl; rfl; rfl; rfl; rfl; rfl; rfl; (focus ((repeat' (first | exact trivial | refine And.intro ?_ ?_ | refine ⟨_, rfl, _, rfl, _, rfl, ?_⟩ | exact VLe.refl _)); done)); rfl; rfl; rfl; rfl) | refine L.c2 (nu) rfl rfl rfl rfl ?_ | refine L.c2 (c1) rfl rfl rfl rfl ?_ | refine L.c2 (c2) rfl rfl rfl rfl ?_ | refine L.c2 (c3) rfl rfl rfl rfl ?_) | ((with_reducible refine D.alloc ?_); refine L.al rfl rfl rfl ?_) | ((with_reducible refine D.store ?_); refine L.st rfl rfl rfl rfl rfl rfl rfl rfl rfl ?_) | ((with_reducible refine D.ax ?_); first | refine L.bs1 rfl rfl rfl rfl rfl (EC.fold_of rfl) rfl rfl ?_ | refine L.bs2 rfl rfl rfl rfl rfl (EC.fold_of rfl) rfl rfl rfl (EC.fold_of rfl) rfl rfl ?_ | refine L.bs3 rfl rfl rfl rfl rfl (EC.fold_of rfl) rfl rfl rfl (EC.fold_of rfl) rfl rfl rfl (EC.fold_of rfl) rfl rfl ?_) | ((with_reducible refine D.aw ?_); (fail_if_success with_reducible refine D.stopR (id := 29) ?_); (fail_if_success with_reducible refine D.stopS (id := 29) ?_); first | ((with_reducible refine D.blk ?_); refine AW.block ?_) | refine K.sq (AW.regL ?_) | refine K.sq (AW.regD mixed (by kernel_rfl) ?_) | refine K.sq (K.sq ?_) | refine AW.regL ?_ | refine AW.condT rfl ?_ | refine AW.condF rfl ?_ | refine AW.condS rfl (fun h => ?_) (fun h => ?_) | refine AW.skip ?_ | refine AW.ret ?_) | with_reducible refine K.tN ?_ | with_reducible refine K.tR ?_ | with_reducible refine K.bR ?_)
    · (exact K.n2 [some 0] rfl rfl rfl rfl rfl (by (repeat' (first | exact trivial | refine And.intro ?_ ?_ | refine ⟨_, rfl, _, rfl, _, rfl, ?_⟩ | exact VLe.of_eq (by simp [Sto.upd, e, Dk.m2, hT]))); done) rfl (by simp [tupV, V.wk, V.wks, constV, Ty.view, Tm.view, e, Dk.m2, hT]))
    · exact absurd hp' (by simpa using h)
  rw [if_neg k2] at e
  by_cases k3 : kk = 3
  · subst k3
    rw [if_pos rfl] at e
    have a := hH W (g ++ [natT, listT, t]) t hD g3 ht (by simp; omega)
    have b := hH _ g t (hok _ (g ++ [natT, listT, t]) t hD) hg ht (by omega)
    have c := hH _ g listT (hok _ g t (hok _ (g ++ [natT, listT, t]) t hD)) hg small_list (by omega)
    have fa := hF W (g ++ [natT, listT, t]) t g3 ht
    have fb := hF (Dk.tm n W (g ++ [natT, listT, t]) t).2 g t hg ht
    have fc := hF (Dk.tm n (Dk.tm n W (g ++ [natT, listT, t]) t).2 g t).2 g listT hg small_list
    have lo := longer_c g [natT, listT, t] (by simp; omega)
    have en : natT.size = 1 := rfl
    have el : listT.size = 1 := rfl
    have c1 := t_c 2 t [(Dk.tm n W (g ++ [natT, listT, t]) t).1] (by simp; omega) (by omega)
    have c2 := t_c 2 listT [lmT t (Dk.tm n W (g ++ [natT, listT, t]) t).1] (by simp [lmT, Tm.full, Tm.fulls]; omega) (by omega)
    have c3 := t_c 2 natT [lmT listT (lmT t (Dk.tm n W (g ++ [natT, listT, t]) t).1)] (by simp [lmT, Tm.full, Tm.fulls]; omega) (by omega)
    have c4 := t_c 9 t [(Dk.tm n (Dk.tm n W (g ++ [natT, listT, t]) t).2 g t).1, lmT natT (lmT listT (lmT t (Dk.tm n W (g ++ [natT, listT, t]) t).1)), (Dk.tm n (Dk.tm n (Dk.tm n W (g ++ [natT, listT, t]) t).2 g t).2 g listT).1] (by simp [lmT, Tm.full, Tm.fulls]; omega) (by omega)
    repeat' (first | ((with_reducible refine D.nil ?_); first | refine AX.nilL ?_ | refine AX.nilD (by kernel_rfl) ?_) | ((with_reducible refine D.load ?_); refine L.ldb rfl rfl rfl rfl rfl rfl ?_) | ((with_reducible refine D.move ?_); refine L.mv rfl rfl rfl ?_) | ((with_reducible refine D.assign ?_); refine L.asg rfl rfl rfl ?_) | ((with_reducible refine D.bin ?_); first | refine L.sb rfl rfl rfl rfl (by omega) ?_ | refine L.bn rfl rfl rfl rfl rfl ?_) | ((with_reducible refine D.call ?_); first | refine L.c2 (nat_c) rfl rfl rfl rfl ?_ | refine L.c2 (list_c) rfl rfl rfl rfl ?_ | (apply L.cb2 (hx8) [0] 0 rfl; rfl; rfl; rfl; rfl; rfl; rfl; (focus ((repeat' (first | exact trivial | refine And.intro ?_ ?_ | refine ⟨_, rfl, _, rfl, _, rfl, ?_⟩ | exact VLe.refl _)); done)); rfl; rfl; rfl; rfl) | (apply L.cb2 (a) [0] 0 rfl; rfl; rfl; rfl; rfl; rfl; rfl; (focus ((repeat' (first | exact trivial | refine And.intro ?_ ?_ | refine ⟨_, rfl, _, rfl, _, rfl, ?_⟩ | exact VLe.refl _)); done)); rfl; rfl; rfl; rfl) | (apply L.cb2 (b) [0] 0 rfl; rfl; rfl; rfl; rfl; rfl; rfl; (focus ((repeat' (first | exact trivial | refine And.intro ?_ ?_ | refine ⟨_, rfl, _, rfl, _, rfl, ?_⟩ | exact VLe.refl _)); done)); rfl; rfl; rfl; rfl) | (apply L.cb2 (c) [0] 0 rfl; rfl; rfl; rfl; rfl; rfl; rfl; (focus ((repeat' (first | exact trivial | refine And.intro ?_ ?_ | refine ⟨_, rfl, _, rfl, _, rfl, ?_⟩ | exact VLe.refl _)); done)); rfl; rfl; rfl; rfl) | refine L.c2 (lo) rfl rfl rfl rfl ?_ | refine L.c2 (c1) rfl rfl rfl rfl ?_ | refine L.c2 (c2) rfl rfl rfl rfl ?_ | refine L.c2 (c3) rfl rfl rfl rfl ?_ | refine L.c2 (c4) rfl rfl rfl rfl ?_) | ((with_reducible refine D.alloc ?_); refine L.al rfl rfl rfl ?_) | ((with_reducible refine D.store ?_); refine L.st rfl rfl rfl rfl rfl rfl rfl rfl rfl ?_) | ((with_reducible refine D.ax ?_); first | refine L.bs1 rfl rfl rfl rfl rfl (EC.fold_of rfl) rfl rfl ?_ | refine L.bs3 rfl rfl rfl rfl rfl (EC.fold_of rfl) rfl rfl rfl (EC.fold_of rfl) rfl rfl rfl (EC.fold_of rfl) rfl rfl ?_) | ((with_reducible refine D.aw ?_); (fail_if_success with_reducible refine D.stopR (id := 29) ?_); (fail_if_success with_reducible refine D.stopS (id := 29) ?_); first | ((with_reducible refine D.blk ?_); refine AW.block ?_) | refine K.sq (AW.regL ?_) | refine K.sq (AW.regD mixed (by kernel_rfl) ?_) | refine K.sq (K.sq ?_) | refine AW.regL ?_ | refine AW.condT rfl ?_ | refine AW.condF rfl ?_ | refine AW.condS rfl (fun h => ?_) (fun h => ?_) | refine AW.skip ?_ | refine AW.ret ?_) | with_reducible refine K.tN ?_ | with_reducible refine K.tR ?_ | with_reducible refine K.bR ?_)
    · (exact K.n2 [some 0] rfl rfl rfl rfl rfl (by (repeat' (first | exact trivial | refine And.intro ?_ ?_ | refine ⟨_, rfl, _, rfl, _, rfl, ?_⟩ | exact VLe.of_eq (by simp [Sto.upd, e, Dk.m3, hT]))); done) rfl (by simp [tupV, V.wk, V.wks, constV, Ty.view, Tm.view, e, Dk.m3, hT]))
    · exact absurd hp' (by simpa using h)
  rw [if_neg k3] at e
  by_cases k4 : kk = 4
  · subst k4
    rw [if_pos rfl] at e
    have a := hH D1 g S hD1 hg hSs (by omega)
    have b := hH _ g t (hok _ g S hD1) hg ht (by omega)
    have fa := hF D1 g S hg hSs
    have fb := hF (Dk.tm n D1 g S).2 g t hg ht
    have c1 := n_c 10 [(Dk.tm n D1 g S).1, (Dk.tm n (Dk.tm n D1 g S).2 g t).1] (by simp; omega)
    have c2 := n_c 12 [nT 10 [(Dk.tm n D1 g S).1, (Dk.tm n (Dk.tm n D1 g S).2 g t).1]] (by simp [nT, Tm.full, Tm.fulls, Ty.size, Ty.sizes]; omega)
    repeat' (first | ((with_reducible refine D.nil ?_); first | refine AX.nilL ?_ | refine AX.nilD (by kernel_rfl) ?_) | ((with_reducible refine D.load ?_); refine L.ldb rfl rfl rfl rfl rfl rfl ?_) | ((with_reducible refine D.move ?_); refine L.mv rfl rfl rfl ?_) | ((with_reducible refine D.assign ?_); refine L.asg rfl rfl rfl ?_) | ((with_reducible refine D.bin ?_); first | refine L.sb rfl rfl rfl rfl (by omega) ?_ | refine L.bn rfl rfl rfl rfl rfl ?_) | ((with_reducible refine D.call ?_); first | (apply L.cb2 (hx8) [0] 0 rfl; rfl; rfl; rfl; rfl; rfl; rfl; (focus ((repeat' (first | exact trivial | refine And.intro ?_ ?_ | refine ⟨_, rfl, _, rfl, _, rfl, ?_⟩ | exact VLe.refl _)); done)); rfl; rfl; rfl; rfl) | (apply L.cb2 (tp) [0] 0 rfl; rfl; rfl; rfl; rfl; rfl; rfl; (focus ((repeat' (first | exact trivial | refine And.intro ?_ ?_ | refine ⟨_, rfl, _, rfl, _, rfl, ?_⟩ | exact VLe.refl _)); done)); rfl; rfl; rfl; rfl) | (apply L.cb2 (a) [0] 0 rfl; rfl; rfl; rfl; rfl; rfl; rfl; (focus ((repeat' (first | exact trivial | refine And.intro ?_ ?_ | refine ⟨_, rfl, _, rfl, _, rfl, ?_⟩ | exact VLe.refl _)); done)); rfl; rfl; rfl; rfl) | (apply L.cb2 (b) [0] 0 rfl; rfl; rfl; rfl; rfl; rfl; rfl; (focus ((repeat' (first | exact trivial | refine And.intro ?_ ?_ | refine ⟨_, rfl, _, rfl, _, rfl, ?_⟩ | exact VLe.refl _)); done)); rfl; rfl; rfl; rfl) | refine L.c2 (c1) rfl rfl rfl rfl ?_ | refine L.c2 (c2) rfl rfl rfl rfl ?_) | ((with_reducible refine D.alloc ?_); refine L.al rfl rfl rfl ?_) | ((with_reducible refine D.store ?_); refine L.st rfl rfl rfl rfl rfl rfl rfl rfl rfl ?_) | ((with_reducible refine D.ax ?_); first | refine L.bs1 rfl rfl rfl rfl rfl (EC.fold_of rfl) rfl rfl ?_ | refine L.bs2 rfl rfl rfl rfl rfl (EC.fold_of rfl) rfl rfl rfl (EC.fold_of rfl) rfl rfl ?_) | ((with_reducible refine D.aw ?_); (fail_if_success with_reducible refine D.stopR (id := 29) ?_); (fail_if_success with_reducible refine D.stopS (id := 29) ?_); first | ((with_reducible refine D.blk ?_); refine AW.block ?_) | refine K.sq (AW.regL ?_) | refine K.sq (AW.regD mixed (by kernel_rfl) ?_) | refine K.sq (K.sq ?_) | refine AW.regL ?_ | refine AW.condT rfl ?_ | refine AW.condF rfl ?_ | refine AW.condS rfl (fun h => ?_) (fun h => ?_) | refine AW.skip ?_ | refine AW.ret ?_) | with_reducible refine K.tN ?_ | with_reducible refine K.tR ?_ | with_reducible refine K.bR ?_)
    · (exact K.n2 [some 0] rfl rfl rfl rfl rfl (by (repeat' (first | exact trivial | refine And.intro ?_ ?_ | refine ⟨_, rfl, _, rfl, _, rfl, ?_⟩ | exact VLe.of_eq (by simp [Sto.upd, e, Dk.m4, nT]))); done) rfl (by simp [tupV, V.wk, V.wks, constV, Ty.view, Tm.view, e, Dk.m4, nT]))
    · exact absurd hp' (by simpa using h)
  rw [if_neg k4] at e
  by_cases k5 : kk = 5
  · subst k5
    rw [if_pos rfl] at e
    repeat' (first | ((with_reducible refine D.nil ?_); refine AX.nilL ?_) | ((with_reducible refine D.move ?_); refine L.mv rfl rfl rfl ?_) | ((with_reducible refine D.assign ?_); refine L.asg rfl rfl rfl ?_) | ((with_reducible refine D.bin ?_); refine L.bn rfl rfl rfl rfl rfl ?_) | ((with_reducible refine D.call ?_); first | refine L.lnt rfl rfl rfl rfl ?_ | (apply L.cb2 (hx8) [0] 0 rfl; rfl; rfl; rfl; rfl; rfl; rfl; (focus ((repeat' (first | exact trivial | refine And.intro ?_ ?_ | refine ⟨_, rfl, _, rfl, _, rfl, ?_⟩ | exact VLe.refl _)); done)); rfl; rfl; rfl; rfl)) | ((with_reducible refine D.aw ?_); (fail_if_success with_reducible refine D.stopR (id := 29) ?_); (fail_if_success with_reducible refine D.stopS (id := 29) ?_); first | ((with_reducible refine D.blk ?_); refine AW.block ?_) | refine K.sq (AW.regL ?_) | refine K.sq (K.sq ?_) | refine AW.regL ?_ | refine AW.condT rfl ?_ | refine AW.condF rfl ?_ | refine AW.condS rfl (fun h => ?_) (fun h => ?_) | refine AW.skip ?_) | with_reducible refine K.tN ?_)
    all_goals first
      | exact absurd hp' (by simpa using h)
      | skip
    refine AW.range g.length (fun m => ∀ j, j < m → isFn g t j = false)
      (fun m => ([(0, .ptr 0 0), (1, .s .ty g), (3, .i depth), (6, .ptr 1 0), (8, .ptr 2 0), (176, .i g.length), (177, .i m)], ⟨3, [(0, .var W.cells), (1, .var t.view), (2, .var [.i 0, .i 0, .i 0, .slice .nil (.t .ty []), .slice .nil (.t .tm [])])]⟩))
      (by omega) (fun m => rfl) (fun m => rfl) rfl (by intro j hj; omega) (Weak.mk [some 0, some 1, some 2] _ _ _ rfl rfl rfl rfl (by (repeat' (first | exact trivial | refine And.intro ?_ ?_ | refine ⟨_, rfl, _, rfl, ?_⟩ | exact VLe.refl _)); done) (by (repeat' (first | exact trivial | refine And.intro ?_ ?_ | refine ⟨_, rfl, _, rfl, _, rfl, ?_⟩ | exact VLe.refl _)); done)) ?_ ?_
    · intro m hm hP
      have hm2 : g.length - 1 - m < g.length := by omega
      have hat : at0 g (g.length - 1 - m) = g[g.length - 1 - m] := at0_lt hm2
      have hgs : (g[g.length - 1 - m]).small := hg _ (List.getElem_mem hm2)
      have hstep : ∀ b, isFn g t m = b → b = false → ∀ j, j < m + 1 → isFn g t j = false := fun b hb hf j hj => by
        by_cases hjm : j = m
        · rw [hjm, hb, hf]
        · exact hP j (by omega)
      have hfn : isFn g t m = ((g[g.length - 1 - m]).kind == 4 && decide (at0 (g[g.length - 1 - m]).args 1 = t)) := by simp only [isFn, hat]
      by_cases hk4 : (g[g.length - 1 - m]).kind = 4
      · obtain ⟨p, q, hpq⟩ := Ty.args_two hgs.1 (.inr hk4)
        have l0 : 0 < (g[g.length - 1 - m]).args.length := by rw [hpq]; simp
        have l1 : 1 < (g[g.length - 1 - m]).args.length := by rw [hpq]; simp
        have sm := sameTy_c _ ((g[g.length - 1 - m]).args[1]) t (Nat.le_refl _) (by
          have h1 := lsum_mem Ty.size (List.getElem_mem l1)
          have h2 := (g[g.length - 1 - m]).size_eq
          have h3 := hgs.2
          omega)
        have ha1 : at0 (g[g.length - 1 - m]).args 1 = (g[g.length - 1 - m]).args[1] := at0_lt l1
        have ha0 : at0 (g[g.length - 1 - m]).args 0 = (g[g.length - 1 - m]).args[0] := at0_lt l0
        rw [ha1, beq_iff_eq.2 hk4, Bool.true_and] at hfn
        have sm0 : ((g[g.length - 1 - m]).args[0]).small := by
          have h1 := lsum_mem Ty.size (List.getElem_mem l0)
          have h2 := (g[g.length - 1 - m]).size_eq
          have h3 := hgs.2
          have h4 := hgs.1
          rw [Ty.shape_eq, Bool.and_eq_true] at h4
          exact ⟨List.all_eq_true.1 h4.2 _ (List.getElem_mem l0), by omega⟩
        have a := hH W g ((g[g.length - 1 - m]).args[0]) hD hg sm0 (by omega)
        have fa := hF W g ((g[g.length - 1 - m]).args[0]) hg sm0
        have vc := var_c m
        have c1 := n_c 3 [vT m, (Dk.tm n W g ((g[g.length - 1 - m]).args[0])).1] (by simp [vT, Tm.full, Tm.fulls, Ty.size, Ty.sizes]; omega)
        repeat' (first | ((with_reducible refine D.nil ?_); refine AX.nilL ?_) | ((with_reducible refine D.move ?_); refine L.mv rfl rfl rfl ?_) | ((with_reducible refine D.assign ?_); refine L.asg rfl rfl rfl ?_) | ((with_reducible refine D.bin ?_); refine L.sb rfl rfl rfl rfl (by omega) ?_) | ((with_reducible refine D.call ?_); refine L.lnt rfl rfl rfl rfl ?_) | ((with_reducible refine D.aw ?_); (fail_if_success with_reducible refine D.stopR (id := 29) ?_); (fail_if_success with_reducible refine D.stopS (id := 29) ?_); refine K.sq (AW.regL ?_)) | with_reducible refine K.tN ?_)
        refine L.ixt (g.length - 1 - m) rfl rfl rfl rfl (by omega) rfl rfl hm2 ?_
        repeat' (first | ((with_reducible refine D.nil ?_); first | refine AX.nilL ?_ | refine AX.nilD (by kernel_rfl) ?_) | ((with_reducible refine D.load ?_); first | refine L.ldb rfl rfl rfl rfl rfl rfl ?_ | refine L.lda rfl rfl rfl rfl rfl ?_ | refine AX.sk rfl rfl ?_) | ((with_reducible refine D.move ?_); refine L.mv rfl rfl rfl ?_) | ((with_reducible refine D.fieldAddr ?_); first | refine L.fab rfl rfl rfl rfl rfl ?_ | refine AX.sk rfl rfl ?_ | ((fail_if_success refine AX.wt rfl ?_); refine AX.gs rfl rfl (fun _ => trivial) (fun h => ?_) (fun h => ?_))) | ((with_reducible refine D.bin ?_); first | refine L.sb rfl rfl rfl rfl (by omega) ?_ | refine L.bn rfl rfl rfl rfl rfl ?_) | ((with_reducible refine D.call ?_); first | refine L.c2 (sm) rfl rfl rfl rfl ?_ | refine L.c2 (vc) rfl rfl rfl rfl ?_ | (apply L.cb2 (a) [0] 0 rfl; rfl; rfl; rfl; rfl; rfl; rfl; (focus ((repeat' (first | exact trivial | refine And.intro ?_ ?_ | refine ⟨_, rfl, _, rfl, _, rfl, ?_⟩ | exact VLe.refl _)); done)); rfl; rfl; rfl; rfl) | refine L.c2 (c1) rfl rfl rfl rfl ?_ | refine AX.sk rfl rfl ?_) | ((with_reducible refine D.alloc ?_); refine L.al rfl rfl rfl ?_) | ((with_reducible refine D.store ?_); refine L.st rfl rfl rfl rfl rfl rfl rfl rfl rfl ?_) | ((with_reducible refine D.indexAddr ?_); first | refine L.ixt _ rfl rfl rfl rfl rfl rfl rfl (by first | assumption | (simp at *; omega)) ?_ | refine AX.sk rfl rfl ?_) | ((with_reducible refine D.pick ?_); refine L.pk rfl rfl rfl rfl ?_) | ((with_reducible refine D.ax ?_); refine L.bs2 rfl rfl rfl rfl rfl (EC.fold_of rfl) rfl rfl rfl (EC.fold_of rfl) rfl rfl ?_) | ((with_reducible refine D.aw ?_); (fail_if_success with_reducible refine D.stopR (id := 29) ?_); (fail_if_success with_reducible refine D.stopS (id := 29) ?_); first | refine K.sq (AW.regD mixed (by kernel_rfl) ?_) | refine AW.condF rfl ?_ | refine AW.condS rfl (fun h => ?_) (fun h => ?_) | refine AW.skip ?_ | refine AW.ret ?_) | with_reducible refine K.tN ?_ | with_reducible refine K.bN ?_ | with_reducible refine K.tR ?_ | with_reducible refine K.bR ?_ | with_reducible refine K.gR ?_)
        · have hf : isFn g t m = true := hfn.trans h
          have e2 : W.m5 (Dk.tm n) (decide (2 ≤ n)) g t = (apT (vT m) (Dk.tm n W g ((g[g.length - 1 - m]).args[0])).1, (Dk.tm n W g ((g[g.length - 1 - m]).args[0])).2) := by unfold Dk.m5; rw [findF_at hm hP hf]; simp only [hat, ha0]
          rw [e2] at e
          (exact K.n2 [some 0] rfl rfl rfl rfl rfl (by (repeat' (first | exact trivial | refine And.intro ?_ ?_ | refine ⟨_, rfl, _, rfl, _, rfl, ?_⟩ | exact VLe.of_eq (by simp [Sto.upd, e, apT, vT]))); done) rfl (by simp [tupV, V.wk, V.wks, constV, Ty.view, Tm.view, e, apT, vT]))
        · exact ⟨rfl, hstep _ hfn h, (Weak.mk [some 0, some 1, some 2] _ _ _ rfl rfl rfl rfl (by (repeat' (first | exact trivial | refine And.intro ?_ ?_ | refine ⟨_, rfl, _, rfl, ?_⟩ | exact VLe.refl _)); done) (by (repeat' (first | exact trivial | refine And.intro ?_ ?_ | refine ⟨_, rfl, _, rfl, _, rfl, ?_⟩ | exact VLe.refl _)); done))⟩
        · exact absurd hk4 (by simpa using h)
      · repeat' (first | ((with_reducible refine D.nil ?_); refine AX.nilL ?_) | ((with_reducible refine D.move ?_); refine L.mv rfl rfl rfl ?_) | ((with_reducible refine D.assign ?_); refine L.asg rfl rfl rfl ?_) | ((with_reducible refine D.bin ?_); refine L.sb rfl rfl rfl rfl (by omega) ?_) | ((with_reducible refine D.call ?_); refine L.lnt rfl rfl rfl rfl ?_) | ((with_reducible refine D.aw ?_); (fail_if_success with_reducible refine D.stopR (id := 29) ?_); (fail_if_success with_reducible refine D.stopS (id := 29) ?_); refine K.sq (AW.regL ?_)) | with_reducible refine K.tN ?_)
        refine L.ixt (g.length - 1 - m) rfl rfl rfl rfl (by omega) rfl rfl hm2 ?_
        repeat' (first | ((with_reducible refine D.nil ?_); first | refine AX.nilL ?_ | refine AX.nilD (by kernel_rfl) ?_) | ((with_reducible refine D.load ?_); first | refine L.ldb rfl rfl rfl rfl rfl rfl ?_ | refine L.lda rfl rfl rfl rfl rfl ?_ | refine AX.sk rfl rfl ?_) | ((with_reducible refine D.move ?_); refine L.mv rfl rfl rfl ?_) | ((with_reducible refine D.fieldAddr ?_); first | refine L.fab rfl rfl rfl rfl rfl ?_ | refine AX.sk rfl rfl ?_ | ((fail_if_success refine AX.wt rfl ?_); refine AX.gs rfl rfl (fun _ => trivial) (fun h => ?_) (fun h => ?_))) | ((with_reducible refine D.bin ?_); refine L.bn rfl rfl rfl rfl rfl ?_) | ((with_reducible refine D.call ?_); refine AX.sk rfl rfl ?_) | ((with_reducible refine D.alloc ?_); refine L.al rfl rfl rfl ?_) | ((with_reducible refine D.store ?_); refine L.st rfl rfl rfl rfl rfl rfl rfl rfl rfl ?_) | ((with_reducible refine D.indexAddr ?_); first | refine L.ixt _ rfl rfl rfl rfl rfl rfl rfl (by (simp at *; omega)) ?_ | refine AX.sk rfl rfl ?_) | ((with_reducible refine D.pick ?_); refine L.pk rfl rfl rfl rfl ?_) | ((with_reducible refine D.aw ?_); (fail_if_success with_reducible refine D.stopR (id := 29) ?_); (fail_if_success with_reducible refine D.stopS (id := 29) ?_); first | refine K.sq (AW.regD mixed (by kernel_rfl) ?_) | refine AW.condF rfl ?_ | refine AW.skip ?_) | with_reducible refine K.tN ?_ | with_reducible refine K.bN ?_)
        · exact absurd (by simpa using h) hk4
        · have hk4' : ((g[g.length - 1 - m]).kind == 4) = false := by simpa using hk4
          rw [hk4', Bool.false_and] at hfn
          exact ⟨rfl, hstep _ hfn rfl, (Weak.mk [some 0, some 1, some 2] _ _ _ rfl rfl rfl rfl (by (repeat' (first | exact trivial | refine And.intro ?_ ?_ | refine ⟨_, rfl, _, rfl, ?_⟩ | exact VLe.refl _)); done) (by (repeat' (first | exact trivial | refine And.intro ?_ ?_ | refine ⟨_, rfl, _, rfl, _, rfl, ?_⟩ | exact VLe.refl _)); done))⟩
    · intro hP
      repeat' (first | with_reducible refine K.tN ?_ | with_reducible refine K.bN ?_)
      have e2 : W.m5 (Dk.tm n) (decide (2 ≤ n)) g t = W.fin (Dk.tm n) (decide (2 ≤ n)) g t := by unfold Dk.m5; rw [findF_none' hP]
      rw [e, e2]; exact AW.weak (Weak.mk [some 0, some 1, some 2] _ _ _ rfl rfl rfl rfl (by (repeat' (first | exact trivial | refine And.intro ?_ ?_ | refine ⟨_, rfl, _, rfl, ?_⟩ | exact VLe.refl _)); done) (by (repeat' (first | exact trivial | refine And.intro ?_ ?_ | refine ⟨_, rfl, _, rfl, _, rfl, ?_⟩ | exact VLe.refl _)); done)) (fin_c n H hn depth hdep W hD g t hg ht h0 hl)
  rw [if_neg k5] at e
  have n0 : (kk == 0) = false := by simpa using k0
  repeat' (first | ((with_reducible refine D.nil ?_); refine AX.nilL ?_) | ((with_reducible refine D.move ?_); refine L.mv rfl rfl rfl ?_) | ((with_reducible refine D.assign ?_); refine L.asg rfl rfl rfl ?_) | ((with_reducible refine D.bin ?_); refine L.bn rfl rfl rfl rfl rfl ?_) | ((with_reducible refine D.call ?_); first | refine L.lnt rfl rfl rfl rfl ?_ | (apply L.cb2 (hx8) [0] 0 rfl; rfl; rfl; rfl; rfl; rfl; rfl; (focus ((repeat' (first | exact trivial | refine And.intro ?_ ?_ | refine ⟨_, rfl, _, rfl, _, rfl, ?_⟩ | exact VLe.refl _)); done)); rfl; rfl; rfl; rfl)) | ((with_reducible refine D.aw ?_); (fail_if_success with_reducible refine D.stopR (id := 29) ?_); (fail_if_success with_reducible refine D.stopS (id := 29) ?_); first | ((with_reducible refine D.blk ?_); refine AW.block ?_) | refine K.sq (AW.regL ?_) | refine K.sq (AW.regD mixed (by kernel_rfl) ?_) | refine K.sq (K.sq ?_) | refine AW.regL ?_ | refine AW.condS rfl (fun h => ?_) (fun h => ?_) | refine AW.skip ?_) | with_reducible refine K.tN ?_ | with_reducible refine K.bN ?_)
  all_goals first
    | exact absurd hp' (by simpa using h)
    | exact absurd (by simpa using h) k0
    | exact absurd (by simpa using h) k1
    | exact absurd (by simpa using h) k2
    | exact absurd (by simpa using h) k3
    | exact absurd (by simpa using h) k4
    | exact absurd (by simpa using h) k5
    | (rw [e]; exact AW.weak (Weak.mk [some 0, some 1, some 2] _ _ _ rfl rfl rfl rfl (by (repeat' (first | exact trivial | refine And.intro ?_ ?_ | refine ⟨_, rfl, _, rfl, ?_⟩ | exact VLe.refl _)); done) (by (repeat' (first | exact trivial | refine And.intro ?_ ?_ | refine ⟨_, rfl, _, rfl, _, rfl, ?_⟩ | exact VLe.refl _)); done)) (fin_c n H hn depth hdep W hD g t hg ht h0 hl))
theorem gen_c (n : Nat) (H : HT n) (hn : n ≤ 7) (depth : Int) (hdep : depth = (n : Int) - 1) (d : Dk) (hd : d.ok) (g : List Ty) (t : Ty) (hg : smalls g) (ht : t.small) (h0 : n = 0 → t.size = 1) (hl : g.length + 3 * (n + 1) ≤ 10000) :
    AC E 28 [.ptr 0 0, .s .ty g, .agg t.view, .i depth] ⟨1, [(0, .var d.cells)]⟩ (.agg (d.gen (Dk.tm n) (decide (2 ≤ n)) g t).1.view) ⟨1, [(0, .var (d.gen (Dk.tm n) (decide (2 ≤ n)) g t).2.cells)]⟩ := by
  have hsum := smalls_sum hg
  have hvl : (varsT g t).length ≤ g.length := by
    simp only [varsT, List.length_map]
    have := List.length_filter_le (fun i => decide (g[g.length - 1 - i]? = some t)) (List.range g.length)
    simpa using this
  have hv := vars_c g t (by omega)
  have hx3 := next_c d 3 hd (by omega)
  have hd3 := Dk.next_ok hd 3
  have hxl := next_c (d.next 3).2 (varsT g t).length hd3 (by omega)
  have m1 := mid_c n H hn depth hdep d hd g t hg ht h0 hl
  have m2 := mid_c n H hn depth hdep (d.next 3).2 hd3 g t hg ht h0 hl
  have hvar := var_c
  by_cases he : varsT g t = []
  · have e : d.gen (Dk.tm n) (decide (2 ≤ n)) g t = d.mid (Dk.tm n) (decide (2 ≤ n)) g t := by unfold Dk.gen; rw [if_pos he]
    have hl0 : ¬ (((varsT g t).length : Int) > 0) := by rw [he]; simp
    refine AC.mk Tryz.func28 rfl rfl rfl rfl rfl (Nat.le_of_ble_eq_true rfl) ?_
    repeat' (first | ((with_reducible refine D.nil ?_); refine AX.nilL ?_) | ((with_reducible refine D.load ?_); refine L.ldb rfl rfl rfl rfl rfl rfl ?_) | ((with_reducible refine D.move ?_); first | refine L.mv rfl rfl rfl ?_ | refine AX.sk rfl rfl ?_ | ((fail_if_success refine AX.wt rfl ?_); refine AX.gs rfl rfl (fun _ => trivial) (fun h => ?_) (fun h => ?_))) | ((with_reducible refine D.assign ?_); refine L.asg rfl rfl rfl ?_) | ((with_reducible refine D.bin ?_); first | refine L.bn rfl rfl rfl rfl rfl ?_ | refine AX.sk rfl rfl ?_) | ((with_reducible refine D.call ?_); first | refine L.lnt rfl rfl rfl rfl ?_ | refine L.c2 (hv) rfl rfl rfl rfl ?_ | (apply L.cb2 (hx3) [0] 0 rfl; rfl; rfl; rfl; rfl; rfl; rfl; (focus ((repeat' (first | exact trivial | refine And.intro ?_ ?_ | refine ⟨_, rfl, _, rfl, _, rfl, ?_⟩ | exact VLe.refl _)); done)); rfl; rfl; rfl; rfl) | refine AX.sk rfl rfl ?_) | ((with_reducible refine D.box ?_); refine L.bx rfl rfl rfl rfl ?_) | ((with_reducible refine D.alloc ?_); refine L.al rfl rfl rfl ?_) | ((with_reducible refine D.pick ?_); refine L.pk rfl rfl rfl rfl ?_) | ((with_reducible refine D.aw ?_); (fail_if_success with_reducible refine D.stopR (id := 4) ?_); (fail_if_success with_reducible refine D.stopS (id := 4) ?_); first | refine K.sq (AW.regL ?_) | refine K.sq (K.sq ?_) | refine AW.regL ?_ | refine AW.condF rfl ?_ | refine AW.condS rfl (fun h => ?_) (fun h => ?_) | refine AW.skip ?_) | with_reducible refine K.tN ?_)
    · rename_i h1; exact absurd (by simpa using h1) hl0
    · rename_i h1; exact absurd (by simpa using h1) hl0
    · rw [e]; exact AW.weak (Weak.mk [some 0, some 1, some 2] _ _ _ rfl rfl rfl rfl (by (repeat' (first | exact trivial | refine And.intro ?_ ?_ | refine ⟨_, rfl, _, rfl, ?_⟩ | exact VLe.refl _)); done) (by (repeat' (first | exact trivial | refine And.intro ?_ ?_ | refine ⟨_, rfl, _, rfl, _, rfl, ?_⟩ | exact VLe.refl _)); done)) m1
  · have e : d.gen (Dk.tm n) (decide (2 ≤ n)) g t = if 0 < (d.next 3).1 then (vT ((varsT g t).getD ((d.next 3).2.next (varsT g t).length).1.toNat 0), ((d.next 3).2.next (varsT g t).length).2) else (d.next 3).2.mid (Dk.tm n) (decide (2 ≤ n)) g t := by unfold Dk.gen; rw [if_neg he]
    have hlp : 0 < (varsT g t).length := List.length_pos_iff.2 he
    have hl0 : ((varsT g t).length : Int) > 0 := by omega
    have hbl := Dk.next_bd (d.next 3).2 (varsT g t).length hl0
    have hlt : ((d.next 3).2.next (varsT g t).length).1.toNat < (varsT g t).length := by omega
    refine AC.mk Tryz.func28 rfl rfl rfl rfl rfl (Nat.le_of_ble_eq_true rfl) ?_
    repeat' (first | ((with_reducible refine D.nil ?_); refine AX.nilL ?_) | ((with_reducible refine D.load ?_); refine L.ldb rfl rfl rfl rfl rfl rfl ?_) | ((with_reducible refine D.move ?_); first | refine L.mv rfl rfl rfl ?_ | refine AX.sk rfl rfl ?_ | ((fail_if_success refine AX.wt rfl ?_); refine AX.gs rfl rfl (fun _ => trivial) (fun h => ?_) (fun h => ?_))) | ((with_reducible refine D.assign ?_); refine L.asg rfl rfl rfl ?_) | ((with_reducible refine D.bin ?_); first | refine L.bn rfl rfl rfl rfl rfl ?_ | refine AX.sk rfl rfl ?_) | ((with_reducible refine D.call ?_); first | refine L.lnt rfl rfl rfl rfl ?_ | refine L.c2 (hv) rfl rfl rfl rfl ?_ | (apply L.cb2 (hx3) [0] 0 rfl; rfl; rfl; rfl; rfl; rfl; rfl; (focus ((repeat' (first | exact trivial | refine And.intro ?_ ?_ | refine ⟨_, rfl, _, rfl, _, rfl, ?_⟩ | exact VLe.refl _)); done)); rfl; rfl; rfl; rfl) | (apply L.cb2 (hxl) [0] 0 rfl; rfl; rfl; rfl; rfl; rfl; rfl; (focus ((repeat' (first | exact trivial | refine And.intro ?_ ?_ | refine ⟨_, rfl, _, rfl, _, rfl, ?_⟩ | exact VLe.refl _)); done)); rfl; rfl; rfl; rfl) | refine AX.sk rfl rfl ?_) | ((with_reducible refine D.box ?_); refine L.bx rfl rfl rfl rfl ?_) | ((with_reducible refine D.alloc ?_); refine L.al rfl rfl rfl ?_) | ((with_reducible refine D.pick ?_); refine L.pk rfl rfl rfl rfl ?_) | ((with_reducible refine D.aw ?_); (fail_if_success with_reducible refine D.stopR (id := 4) ?_); (fail_if_success with_reducible refine D.stopS (id := 4) ?_); first | refine K.sq (AW.regL ?_) | refine K.sq (K.sq ?_) | refine AW.regL ?_ | refine AW.condF rfl ?_ | refine AW.condS rfl (fun h => ?_) (fun h => ?_) | refine AW.skip ?_) | with_reducible refine K.tN ?_)
    · refine L.ixt ((d.next 3).2.next (varsT g t).length).1.toNat rfl rfl rfl rfl (by omega) rfl rfl hlt ?_
      have eg : (varsT g t).getD ((d.next 3).2.next (varsT g t).length).1.toNat 0 = (varsT g t)[((d.next 3).2.next (varsT g t).length).1.toNat] := by simp [List.getD_eq_getElem?_getD, hlt]
      rw [if_pos (by simpa using h), eg] at e
      repeat' (first | ((with_reducible refine D.nil ?_); refine AX.nilL ?_) | ((with_reducible refine D.load ?_); refine L.lda rfl rfl rfl rfl rfl ?_) | ((with_reducible refine D.call ?_); refine L.c2 (hvar _) rfl rfl rfl rfl ?_) | ((with_reducible refine D.store ?_); refine L.st rfl rfl rfl rfl rfl rfl rfl rfl rfl ?_) | ((with_reducible refine D.aw ?_); refine AW.ret ?_) | with_reducible refine K.tN ?_ | with_reducible refine K.tR ?_)
      (exact K.n2 [some 0] rfl rfl rfl rfl rfl (by (repeat' (first | exact trivial | refine And.intro ?_ ?_ | refine ⟨_, rfl, _, rfl, _, rfl, ?_⟩ | exact VLe.of_eq (by simp [Sto.upd, e, vT]))); done) rfl (by simp [tupV, V.wk, V.wks, constV, Ty.view, Tm.view, e, vT]))
    · rw [e, if_neg (by simpa using h)]; exact AW.weak (Weak.mk [some 0, some 1, some 2] _ _ _ rfl rfl rfl rfl (by (repeat' (first | exact trivial | refine And.intro ?_ ?_ | refine ⟨_, rfl, _, rfl, ?_⟩ | exact VLe.refl _)); done) (by (repeat' (first | exact trivial | refine And.intro ?_ ?_ | refine ⟨_, rfl, _, rfl, _, rfl, ?_⟩ | exact VLe.refl _)); done)) m2
    · exact absurd hl0 (by simpa using h)
theorem term_c : ∀ n, n ≤ 8 → HT n
  | 0, _ => fun d g t k _ _ _ _ h => by omega
  | n + 1, hn => fun d g t k hk hd hg ht _ h1 hl => gen_c n (term_c n (by omega)) (by omega) k (by omega) d hd g t hg ht (by omega) hl
end Go.Ab
namespace Go.Ab
open Go Go.Proofs
set_option maxRecDepth 100000
set_option maxHeartbeats 4000000
set_option linter.all false
theorem typed_c' (g : List Ty) (t : Tm) (ht : t.full < 137438953472) (hg : ∀ x ∈ g, x.err = 0) (hl : g.length < 100000) : PC E 32 [.s .ty g, .agg t.view] (.tup [.agg (typed g t).1.view, .i (typed g t).2]) := by
  have h1 := checkTmR_c t (by omega)
  have h2 : t.err = 0 → _ := fun h => infer_c _ t g (Nat.le_refl _) (by omega) ((Tm.err_iff t).1 h).1 hg (by omega)
  refine AC.mk Tryz.func32 rfl rfl rfl rfl rfl (Nat.le_of_ble_eq_true rfl) ?_
  repeat' (first | ((with_reducible refine D.nil ?_); refine AX.nilL ?_) | ((with_reducible refine D.load ?_); refine L.ldb rfl rfl rfl rfl rfl rfl ?_) | ((with_reducible refine D.move ?_); refine L.mv rfl rfl rfl ?_) | ((with_reducible refine D.assign ?_); refine L.asg rfl rfl rfl ?_) | ((with_reducible refine D.bin ?_); refine L.bn rfl rfl rfl rfl rfl ?_) | ((with_reducible refine D.call ?_); first | refine L.c2 (h1) rfl rfl rfl rfl ?_ | refine L.c2 (h2 (by simpa using h)) rfl rfl rfl rfl ?_) | ((with_reducible refine D.extract ?_); refine L.ex rfl rfl rfl rfl ?_) | ((with_reducible refine D.box ?_); refine L.bx rfl rfl rfl rfl ?_) | ((with_reducible refine D.alloc ?_); refine L.al rfl rfl rfl ?_) | ((with_reducible refine D.store ?_); refine L.st rfl rfl rfl rfl rfl rfl rfl rfl rfl ?_) | ((with_reducible refine D.ax ?_); refine L.bd rfl rfl rfl rfl rfl ?_) | ((with_reducible refine D.aw ?_); first | refine K.sq (AW.regL ?_) | refine K.sq (K.sq ?_) | refine AW.regL ?_ | refine AW.condS rfl (fun h => ?_) (fun h => ?_) | refine AW.skip ?_ | refine AW.ret ?_) | with_reducible refine K.tN ?_ | with_reducible refine K.tR ?_ | with_reducible refine K.r1 (by with_unfolding_all rfl) (by with_unfolding_all rfl) ?_)
  · have h' : t.err ≠ 0 := by simpa using h
    simp [tupV, V.wk, V.wks, constV, Ty.view, typed, h', noTy]
  · have h' : t.err = 0 := by simpa using h
    simp [tupV, V.wk, V.wks, constV, Ty.view, typed, h']
theorem sameTy_r (x : Ty) (h : x.size < 1099511627776) : PC E 33 [.agg x.view, .agg x.view] (.bool true) := by
  have := sameTy_c _ x x (Nat.le_refl _) h
  simpa using this
theorem sameTm_r (x : Tm) (h : x.full < 1099511627776) : PC E 35 [.agg x.view, .agg x.view] (.bool true) := by
  have := sameTm_c _ x x (Nat.le_refl _) h
  simpa using this
end Go.Ab
namespace Go.Ab
open Go Go.Proofs
set_option maxRecDepth 100000
set_option maxHeartbeats 4000000
set_option linter.all false
theorem few_t (l : List Int) (h : l.length ≤ 500) : PC E 7 [.s .int l] (.bool true) := by
  have := few_c l
  rwa [decide_eq_true h] at this
theorem few_f (l : List Int) (h : ¬ l.length ≤ 500) : PC E 7 [.s .int l] (.bool false) := by
  have := few_c l
  rwa [decide_eq_false h] at this
theorem type1_c (d : Dk) (h : d.ok) : AC E 27 [.ptr 0 0, .i 1] ⟨1, [(0, .var d.cells)]⟩ (.agg (d.type 1).1.view) ⟨1, [(0, .var (d.type 1).2.cells)]⟩ := type_c 1 1 d (by omega) (by omega) (by omega) h
theorem deck_ok {l : List Int} (h : l.length ≤ 500) : (Dk.mk l 0).ok := ⟨Nat.zero_le _, by simp only; omega⟩
end Go.Ab
namespace Go.Ab
open Go Go.Proofs
set_option maxRecDepth 100000
set_option maxHeartbeats 4000000
set_option linter.all false
abbrev CT (t : Tm) (g : List Ty) : Prop := PC E 156 [.s .sz (g.map ofT), .agg t.view] (.tup [.agg (ofT (t.inf g).1).view, .i (t.inf g).2])
end Go.Ab
namespace Go.Ab
open Go Go.Proofs
set_option maxRecDepth 100000
set_option maxHeartbeats 4000000
set_option linter.all false
theorem tof_c (k : Int) (l : List Tm) : PC E 48 [.i k, .s .tm l] (.agg (Tm.mk k 0 (.mk 0 []) l).view) := by
  refine AC.mk Tryz.func48 rfl rfl rfl rfl rfl (Nat.le_of_ble_eq_true rfl) ?_
  repeat' (first | ((with_reducible refine D.nil ?_); refine AX.nilL ?_) | ((with_reducible refine D.move ?_); refine L.mv rfl rfl rfl ?_) | ((with_reducible refine D.alloc ?_); refine L.al rfl rfl rfl ?_) | ((with_reducible refine D.store ?_); refine L.st rfl rfl rfl rfl rfl rfl rfl rfl rfl ?_) | ((with_reducible refine D.ax ?_); refine L.bd rfl rfl rfl rfl rfl ?_) | ((with_reducible refine D.aw ?_); first | refine K.sq (AW.regL ?_) | refine AW.ret ?_) | with_reducible refine K.tN ?_ | with_reducible refine K.r1 (by with_unfolding_all rfl) (by with_unfolding_all rfl) ?_)
  simp [tupV, V.wk, V.wks, constV, Ty.view, Tm.view]
theorem ownTm_c : ∀ (b : Nat) (t : Tm), t.full ≤ b → b < 1099511627776 → PC E 49 [.agg t.view] (.agg t.view) := by
  intro b
  induction b with
  | zero => intro t h; have := t.full_pos; omega
  | succ b ih =>
  intro t hsz hb
  have hsz' := Tm.full_eq t
  have hlen := lsum_len Tm.full Tm.full_pos t.args
  have hty := ownTy_c _ t.ty (Nat.le_refl _) (by omega)
  refine AC.mk Tryz.func49 rfl rfl rfl rfl rfl (Nat.le_of_ble_eq_true rfl) ?_
  repeat' (first | ((with_reducible refine D.nil ?_); first | refine AX.nilL ?_ | refine AX.nilD (by kernel_rfl) ?_) | ((with_reducible refine D.load ?_); refine L.ldb rfl rfl rfl rfl rfl rfl ?_) | ((with_reducible refine D.move ?_); refine L.mv rfl rfl rfl ?_) | ((with_reducible refine D.fieldAddr ?_); refine L.fab rfl rfl rfl rfl rfl ?_) | ((with_reducible refine D.call ?_); first | refine L.lnt rfl rfl rfl rfl ?_ | refine L.c2 (hty) rfl rfl rfl rfl ?_) | ((with_reducible refine D.box ?_); refine L.bx rfl rfl rfl rfl ?_) | ((with_reducible refine D.alloc ?_); refine L.al rfl rfl rfl ?_) | ((with_reducible refine D.store ?_); refine L.st rfl rfl rfl rfl rfl rfl rfl rfl rfl ?_) | ((with_reducible refine D.ax ?_); refine L.bd rfl rfl rfl rfl rfl ?_) | ((with_reducible refine D.aw ?_); first | refine K.sq (AW.regL ?_) | refine K.sq (AW.regD mixed (by kernel_rfl) ?_) | refine K.sq (K.sq ?_) | refine AW.regL ?_) | with_reducible refine K.tN ?_)
  refine AW.range t.args.length (fun m => True)
    (fun m => ([(1, .ptr 0 0), (2, .ptr 1 0), (3, .ptr 2 0), (15, .s .tm t.args), (16, .i t.args.length), (17, .i m)], ⟨4, [(0, .var t.view), (1, .var [.i 0, .i 0, .i 0, .slice .nil (.t .ty []), .slice .nil (.t .tm [])]), (2, .var [.i t.kind, .i t.index, .i t.ty.kind, .s .ty t.ty.args, .slice (.own 3) (.t .tm (t.args.take m))]), (3, .row)]⟩))
    (by omega) (fun m => rfl) (fun m => rfl) rfl trivial (Weak.mk [some 0, some 1, some 2, none] _ _ _ rfl rfl rfl rfl (by (repeat' (first | exact trivial | refine And.intro ?_ ?_ | refine ⟨_, rfl, _, rfl, ?_⟩ | exact VLe.refl _)); done) (by (repeat' (first | exact trivial | exact Or.inl rfl | refine And.intro ?_ ?_ | refine ⟨_, rfl, _, rfl, _, rfl, ?_⟩ | exact VLe.refl _)); done)) ?_ ?_
  · intro m hm hP
    have hs2 := lsum_mem Tm.full (List.getElem_mem hm)
    repeat' (first | ((with_reducible refine D.nil ?_); first | refine AX.nilL ?_ | refine AX.nilD (by kernel_rfl) ?_) | ((with_reducible refine D.load ?_); first | refine L.ldb rfl rfl rfl rfl rfl rfl ?_ | refine L.lda rfl rfl rfl rfl rfl ?_) | ((with_reducible refine D.fieldAddr ?_); refine L.fab rfl rfl rfl rfl rfl ?_) | ((with_reducible refine D.call ?_); first | refine L.apt rfl rfl rfl rfl rfl rfl (by first | exact trivial | exact ⟨rfl, trivial⟩) rfl rfl (by first | omega | (simp; omega)) ?_ | refine L.c2 (ih _ ?_ ?_) rfl rfl rfl rfl ?_) | ((with_reducible refine D.alloc ?_); refine L.al rfl rfl rfl ?_) | ((with_reducible refine D.store ?_); refine L.st rfl rfl rfl rfl rfl rfl rfl rfl rfl ?_) | ((with_reducible refine D.indexAddr ?_); refine L.ixt _ rfl rfl rfl rfl rfl rfl rfl (by assumption) ?_) | ((with_reducible refine D.ax ?_); refine L.bs1 rfl rfl rfl rfl rfl (EC.fold_of rfl) rfl rfl ?_) | ((with_reducible refine D.aw ?_); first | refine K.sq (AW.regL ?_) | refine AW.regD mixed (by kernel_rfl) ?_) | with_reducible refine K.tN ?_ | with_reducible refine K.bN ?_ | ((with_reducible show @LE.le Nat _ _ _); omega) | ((with_reducible show @LT.lt Nat _ _ _); omega))
    exact ⟨rfl, trivial, (Weak.mk [some 0, some 1, some 2, some 5] _ _ _ rfl rfl rfl rfl (by (repeat' (first | exact trivial | refine And.intro ?_ ?_ | refine ⟨_, rfl, _, rfl, ?_⟩ | exact VLe.refl _)); done) (by (repeat' (first | exact trivial | exact Or.inr ⟨_, rfl, rfl⟩ | refine And.intro ?_ ?_ | refine ⟨_, rfl, _, rfl, _, rfl, ?_⟩ | exact VLe.refl _ | exact VLe.of_eq (by simp [Sto.upd, List.take_append_getElem]))); done))⟩
  · intro hP
    repeat' (first | ((with_reducible refine D.nil ?_); refine AX.nilL ?_) | ((with_reducible refine D.load ?_); refine L.ldb rfl rfl rfl rfl rfl rfl ?_) | ((with_reducible refine D.store ?_); refine L.st rfl rfl rfl rfl rfl rfl rfl rfl rfl ?_) | ((with_reducible refine D.aw ?_); first | refine K.sq (AW.regL ?_) | refine AW.ret ?_) | with_reducible refine K.tN ?_ | with_reducible refine K.r1 (by with_unfolding_all rfl) (by with_unfolding_all rfl) ?_)
    simp [tupV, V.wk, V.wks, constV, Ty.view, Tm.view]
end Go.Ab
namespace Go.Ab
open Go Go.Proofs
set_option maxRecDepth 100000
set_option maxHeartbeats 4000000
set_option linter.all false
def lamsT (b : Tm) (l : List Ty) : Tm := l.foldr lmT b
def dflS (t : Ty) : Tm := if t.err = 0 then dfl t else noTm
end Go.Ab
namespace Go.Ab
open Go Go.Proofs
set_option maxRecDepth 100000
set_option maxHeartbeats 4000000
set_option linter.all false
theorem quantifier_c (k : Int) : PC E 106 [.i k] (.bool (quantK k)) := by
  refine AC.mk Tryz.func106 rfl rfl rfl rfl rfl (Nat.le_of_ble_eq_true rfl) ?_
  repeat' (first | ((with_reducible refine D.nil ?_); refine AX.nilL ?_) | ((with_reducible refine D.move ?_); first | refine L.mv rfl rfl rfl ?_ | refine AX.sk rfl rfl ?_ | ((fail_if_success refine AX.wt rfl ?_); refine AX.gs rfl rfl (fun _ => trivial) (fun h => ?_) (fun h => ?_))) | ((with_reducible refine D.assign ?_); refine L.asg rfl rfl rfl ?_) | ((with_reducible refine D.bin ?_); first | refine L.bn rfl rfl rfl rfl rfl ?_ | refine AX.sk rfl rfl ?_) | ((with_reducible refine D.pick ?_); refine L.pk rfl rfl rfl rfl ?_) | ((with_reducible refine D.aw ?_); first | refine K.sq (AW.regL ?_) | refine AW.ret ?_) | with_reducible refine K.tN ?_ | with_reducible refine K.r1 (by with_unfolding_all rfl) (by with_unfolding_all rfl) ?_)
  all_goals (simp_all [tupV, V.wk, V.wks, constV, quantK]; try omega)
theorem formed_c (f : Fm) (ht : f.ty.size < 1099511627776) : PC E 159 [.agg f.view] (.bool f.head) := by
  have h1 := noType_c f.ty
  have h2 := checkTy_c f.ty ht
  have hok := Ty.ok_err f.ty
  obtain ⟨k, h, ts, fs⟩ := f
  simp only [Fm.ty_mk] at *
  have hk : k = 1 ∨ k = 2 ∨ k = 3 ∨ k = 4 ∨ k = 5 ∨ k = 6 ∨ k = 7 ∨ (k ≠ 1 ∧ k ≠ 2 ∧ k ≠ 3 ∧ k ≠ 4 ∧ k ≠ 5 ∧ k ≠ 6 ∧ k ≠ 7) := by omega
  rcases hk with rfl | rfl | rfl | rfl | rfl | rfl | rfl | hk
  · cases hn : h.isNo with
    | false =>
      rw [hn] at h1
      refine AC.mk Tryz.func159 rfl rfl rfl rfl rfl (Nat.le_of_ble_eq_true rfl) ?_
      repeat' (first | ((with_reducible refine D.nil ?_); refine AX.nilL ?_) | ((with_reducible refine D.load ?_); refine L.ldb rfl rfl rfl rfl rfl rfl ?_) | ((with_reducible refine D.move ?_); refine L.mv rfl rfl rfl ?_) | ((with_reducible refine D.fieldAddr ?_); refine L.fab rfl rfl rfl rfl rfl ?_) | ((with_reducible refine D.assign ?_); refine L.asg rfl rfl rfl ?_) | ((with_reducible refine D.bin ?_); refine L.bn rfl rfl rfl rfl rfl ?_) | ((with_reducible refine D.call ?_); refine L.c2 (h1) rfl rfl rfl rfl ?_) | ((with_reducible refine D.box ?_); refine L.bx rfl rfl rfl rfl ?_) | ((with_reducible refine D.not ?_); refine L.nt rfl rfl rfl ?_) | ((with_reducible refine D.aw ?_); first | ((with_reducible refine D.blk ?_); refine AW.block ?_) | refine K.sq (AW.regL ?_) | refine K.sq (K.sq ?_) | refine AW.regL ?_ | refine AW.condT rfl ?_ | refine AW.condF rfl ?_ | refine AW.ret ?_) | with_reducible refine K.tN ?_ | with_reducible refine K.bN ?_ | with_reducible refine K.tR ?_ | with_reducible refine K.r1 (by with_unfolding_all rfl) (by with_unfolding_all rfl) ?_)
      simp [tupV, V.wk, V.wks, constV, Fm.head, hn]
    | true =>
      rw [hn] at h1
      refine AC.mk Tryz.func159 rfl rfl rfl rfl rfl (Nat.le_of_ble_eq_true rfl) ?_
      repeat' (first | ((with_reducible refine D.nil ?_); refine AX.nilL ?_) | ((with_reducible refine D.load ?_); first | refine L.ldb rfl rfl rfl rfl rfl rfl ?_ | refine AX.sk rfl rfl ?_) | ((with_reducible refine D.move ?_); first | refine L.mv rfl rfl rfl ?_ | refine AX.sk rfl rfl ?_) | ((with_reducible refine D.fieldAddr ?_); first | refine L.fab rfl rfl rfl rfl rfl ?_ | refine AX.sk rfl rfl ?_ | ((fail_if_success refine AX.wt rfl ?_); refine AX.gs rfl rfl (fun _ => trivial) (fun h => ?_) (fun h => ?_))) | ((with_reducible refine D.assign ?_); refine L.asg rfl rfl rfl ?_) | ((with_reducible refine D.bin ?_); first | refine L.bn rfl rfl rfl rfl rfl ?_ | refine AX.sk rfl rfl ?_) | ((with_reducible refine D.call ?_); first | refine L.lnt rfl rfl rfl rfl ?_ | refine L.c2 (h1) rfl rfl rfl rfl ?_ | refine AX.sk rfl rfl ?_) | ((with_reducible refine D.box ?_); refine L.bx rfl rfl rfl rfl ?_) | ((with_reducible refine D.not ?_); refine L.nt rfl rfl rfl ?_) | ((with_reducible refine D.pick ?_); refine L.pk rfl rfl rfl rfl ?_) | ((with_reducible refine D.aw ?_); first | ((with_reducible refine D.blk ?_); refine AW.block ?_) | refine K.sq (AW.regL ?_) | refine K.sq (K.sq ?_) | refine AW.regL ?_ | refine AW.condT rfl ?_ | refine AW.condF rfl ?_ | refine AW.skip ?_ | refine AW.ret ?_) | with_reducible refine K.tN ?_ | with_reducible refine K.bN ?_ | with_reducible refine K.r1 (by with_unfolding_all rfl) (by with_unfolding_all rfl) ?_)
      · have h' : ts.length = 2 := by simp at h; omega
        have e : ((fs.length : Int) == 0) = (fs.length == 0) := by rw [Bool.eq_iff_iff]; simp
        simp [tupV, V.wk, V.wks, constV, Fm.head, hn, h', e]
      · have h' : ¬ ts.length = 2 := by simp at h; omega
        simp [tupV, V.wk, V.wks, constV, Fm.head, hn, h']
  all_goals first
    | (cases hn : h.isNo with
       | false =>
         rw [hn] at h1
         refine AC.mk Tryz.func159 rfl rfl rfl rfl rfl (Nat.le_of_ble_eq_true rfl) ?_
         repeat' (first | ((with_reducible refine D.nil ?_); refine AX.nilL ?_) | ((with_reducible refine D.load ?_); refine L.ldb rfl rfl rfl rfl rfl rfl ?_) | ((with_reducible refine D.move ?_); refine L.mv rfl rfl rfl ?_) | ((with_reducible refine D.fieldAddr ?_); refine L.fab rfl rfl rfl rfl rfl ?_) | ((with_reducible refine D.assign ?_); refine L.asg rfl rfl rfl ?_) | ((with_reducible refine D.bin ?_); refine L.bn rfl rfl rfl rfl rfl ?_) | ((with_reducible refine D.call ?_); refine L.c2 (h1) rfl rfl rfl rfl ?_) | ((with_reducible refine D.box ?_); refine L.bx rfl rfl rfl rfl ?_) | ((with_reducible refine D.not ?_); refine L.nt rfl rfl rfl ?_) | ((with_reducible refine D.aw ?_); first | ((with_reducible refine D.blk ?_); refine AW.block ?_) | refine K.sq (AW.regL ?_) | refine K.sq (K.sq ?_) | refine AW.regL ?_ | refine AW.condT rfl ?_ | refine AW.condF rfl ?_ | refine AW.condS rfl (fun h => ?_) (fun h => ?_) | refine AW.skip ?_ | refine AW.ret ?_) | with_reducible refine K.tN ?_ | with_reducible refine K.bN ?_ | with_reducible refine K.tR ?_ | with_reducible refine K.bR ?_ | with_reducible refine K.r1 (by with_unfolding_all rfl) (by with_unfolding_all rfl) ?_)
         simp [tupV, V.wk, V.wks, constV, Fm.head, hn]
         done
       | true =>
         rw [hn] at h1
         refine AC.mk Tryz.func159 rfl rfl rfl rfl rfl (Nat.le_of_ble_eq_true rfl) ?_
         repeat' (first | ((with_reducible refine D.nil ?_); refine AX.nilL ?_) | ((with_reducible refine D.load ?_); first | refine L.ldb rfl rfl rfl rfl rfl rfl ?_ | refine AX.sk rfl rfl ?_) | ((with_reducible refine D.move ?_); first | refine L.mv rfl rfl rfl ?_ | refine AX.sk rfl rfl ?_) | ((with_reducible refine D.fieldAddr ?_); first | refine L.fab rfl rfl rfl rfl rfl ?_ | refine AX.sk rfl rfl ?_ | ((fail_if_success refine AX.wt rfl ?_); refine AX.gs rfl rfl (fun _ => trivial) (fun h => ?_) (fun h => ?_))) | ((with_reducible refine D.assign ?_); refine L.asg rfl rfl rfl ?_) | ((with_reducible refine D.bin ?_); first | refine L.bn rfl rfl rfl rfl rfl ?_ | refine AX.sk rfl rfl ?_) | ((with_reducible refine D.call ?_); first | refine L.lnt rfl rfl rfl rfl ?_ | refine L.c2 (h1) rfl rfl rfl rfl ?_ | refine AX.sk rfl rfl ?_) | ((with_reducible refine D.box ?_); refine L.bx rfl rfl rfl rfl ?_) | ((with_reducible refine D.not ?_); refine L.nt rfl rfl rfl ?_) | ((with_reducible refine D.pick ?_); refine L.pk rfl rfl rfl rfl ?_) | ((with_reducible refine D.aw ?_); first | ((with_reducible refine D.blk ?_); refine AW.block ?_) | refine K.sq (AW.regL ?_) | refine K.sq (K.sq ?_) | refine AW.regL ?_ | refine AW.condT rfl ?_ | refine AW.condF rfl ?_ | refine AW.skip ?_ | refine AW.ret ?_) | with_reducible refine K.tN ?_ | with_reducible refine K.bN ?_ | with_reducible refine K.r1 (by with_unfolding_all rfl) (by with_unfolding_all rfl) ?_)
         · have h' : ts.length = 0 := by simp at h; simp [h]
           have e : ((fs.length : Int) == 2) = (fs.length == 2) := by rw [Bool.eq_iff_iff]; simp; omega
           simp [tupV, V.wk, V.wks, constV, Fm.head, hn, h', e]
         · have h' : ¬ ts.length = 0 := by simp at h; simpa using h
           simp [tupV, V.wk, V.wks, constV, Fm.head, hn, h']
           done)
    | (by_cases hn : h.err = 0
       · rw [hn] at h2
         refine AC.mk Tryz.func159 rfl rfl rfl rfl rfl (Nat.le_of_ble_eq_true rfl) ?_
         repeat' (first | ((with_reducible refine D.nil ?_); refine AX.nilL ?_) | ((with_reducible refine D.load ?_); first | refine L.ldb rfl rfl rfl rfl rfl rfl ?_ | refine AX.sk rfl rfl ?_) | ((with_reducible refine D.move ?_); first | refine L.mv rfl rfl rfl ?_ | refine AX.sk rfl rfl ?_) | ((with_reducible refine D.fieldAddr ?_); first | refine L.fab rfl rfl rfl rfl rfl ?_ | refine AX.sk rfl rfl ?_ | ((fail_if_success refine AX.wt rfl ?_); refine AX.gs rfl rfl (fun _ => trivial) (fun h => ?_) (fun h => ?_))) | ((with_reducible refine D.assign ?_); refine L.asg rfl rfl rfl ?_) | ((with_reducible refine D.bin ?_); first | refine L.bn rfl rfl rfl rfl rfl ?_ | refine AX.sk rfl rfl ?_) | ((with_reducible refine D.call ?_); first | refine L.lnt rfl rfl rfl rfl ?_ | refine L.c2 (h2) rfl rfl rfl rfl ?_ | refine AX.sk rfl rfl ?_) | ((with_reducible refine D.extract ?_); refine L.ex rfl rfl rfl rfl ?_) | ((with_reducible refine D.box ?_); refine L.bx rfl rfl rfl rfl ?_) | ((with_reducible refine D.pick ?_); refine L.pk rfl rfl rfl rfl ?_) | ((with_reducible refine D.aw ?_); first | ((with_reducible refine D.blk ?_); refine AW.block ?_) | refine K.sq (AW.regL ?_) | refine K.sq (K.sq ?_) | refine AW.regL ?_ | refine AW.condT rfl ?_ | refine AW.condF rfl ?_ | refine AW.condS rfl (fun h => ?_) (fun h => ?_) | refine AW.skip ?_ | refine AW.ret ?_) | with_reducible refine K.tN ?_ | with_reducible refine K.bN ?_ | with_reducible refine K.tR ?_ | with_reducible refine K.bR ?_ | with_reducible refine K.r1 (by with_unfolding_all rfl) (by with_unfolding_all rfl) ?_)
         · have h' : ts.length = 0 := by simp at h; simp [h]
           have e : ((fs.length : Int) == 1) = (fs.length == 1) := by rw [Bool.eq_iff_iff]; simp; omega
           simp [tupV, V.wk, V.wks, constV, Fm.head, hok, hn, h', e]
         · have h' : ¬ ts.length = 0 := by simp at h; simpa using h
           simp [tupV, V.wk, V.wks, constV, Fm.head, hok, hn, h']
           done
       · have hb : (h.err != 0) = true := by simpa using hn
         refine AC.mk Tryz.func159 rfl rfl rfl rfl rfl (Nat.le_of_ble_eq_true rfl) ?_
         repeat' (first | ((with_reducible refine D.nil ?_); refine AX.nilL ?_) | ((with_reducible refine D.load ?_); first | refine L.ldb rfl rfl rfl rfl rfl rfl ?_ | refine AX.sk rfl rfl ?_) | ((with_reducible refine D.move ?_); first | refine L.mv rfl rfl rfl ?_ | refine AX.sk rfl rfl ?_) | ((with_reducible refine D.fieldAddr ?_); first | refine L.fab rfl rfl rfl rfl rfl ?_ | refine AX.sk rfl rfl ?_ | ((fail_if_success refine AX.wt rfl ?_); refine AX.gs rfl rfl (fun _ => trivial) (fun h => ?_) (fun h => ?_))) | ((with_reducible refine D.assign ?_); refine L.asg rfl rfl rfl ?_) | ((with_reducible refine D.bin ?_); first | refine L.bn rfl rfl rfl rfl rfl ?_ | refine AX.sk rfl rfl ?_) | ((with_reducible refine D.call ?_); first | refine L.lnt rfl rfl rfl rfl ?_ | refine L.c2 (h2) rfl rfl rfl rfl ?_ | refine AX.sk rfl rfl ?_) | ((with_reducible refine D.extract ?_); refine L.ex rfl rfl rfl rfl ?_) | ((with_reducible refine D.box ?_); refine L.bx rfl rfl rfl rfl ?_) | ((with_reducible refine D.pick ?_); refine L.pk rfl rfl rfl rfl ?_) | ((with_reducible refine D.aw ?_); first | ((with_reducible refine D.blk ?_); refine AW.block ?_) | refine K.sq (AW.regL ?_) | refine K.sq (K.sq ?_) | refine AW.regL ?_ | refine AW.condT rfl ?_ | refine AW.condF rfl ?_ | refine AW.condS rfl (fun h => ?_) (fun h => ?_) | refine AW.skip ?_ | refine AW.ret ?_) | with_reducible refine K.tN ?_ | with_reducible refine K.bN ?_ | with_reducible refine K.tR ?_ | with_reducible refine K.r1 (by with_unfolding_all rfl) (by with_unfolding_all rfl) ?_)
         · simp [tupV, V.wk, V.wks, constV, Fm.head, hok, hn]
         all_goals (exfalso; simp_all; done))
    | (refine AC.mk Tryz.func159 rfl rfl rfl rfl rfl (Nat.le_of_ble_eq_true rfl) ?_
       repeat' (first | ((with_reducible refine D.nil ?_); refine AX.nilL ?_) | ((with_reducible refine D.load ?_); refine L.ldb rfl rfl rfl rfl rfl rfl ?_) | ((with_reducible refine D.move ?_); refine L.mv rfl rfl rfl ?_) | ((with_reducible refine D.fieldAddr ?_); refine L.fab rfl rfl rfl rfl rfl ?_) | ((with_reducible refine D.assign ?_); refine L.asg rfl rfl rfl ?_) | ((with_reducible refine D.bin ?_); refine L.bn rfl rfl rfl rfl rfl ?_) | ((with_reducible refine D.box ?_); refine L.bx rfl rfl rfl rfl ?_) | ((with_reducible refine D.aw ?_); first | ((with_reducible refine D.blk ?_); refine AW.block ?_) | refine K.sq (AW.regL ?_) | refine K.sq (K.sq ?_) | refine AW.regL ?_ | refine AW.condT rfl ?_ | refine AW.condF rfl ?_ | refine AW.condS rfl (fun h => ?_) (fun h => ?_) | refine AW.skip ?_ | refine AW.ret ?_) | with_reducible refine K.tN ?_ | with_reducible refine K.bN ?_ | with_reducible refine K.tR ?_ | with_reducible refine K.bR ?_ | with_reducible refine K.r1 (by with_unfolding_all rfl) (by with_unfolding_all rfl) ?_)
       all_goals first
         | (exfalso; simp_all; done)
         | (simp [tupV, V.wk, V.wks, constV, Fm.head, hk]; done))
end Go.Ab
namespace Go.Ab
open Go Go.Proofs
set_option maxRecDepth 100000
set_option maxHeartbeats 4000000
set_option linter.all false
theorem formulaNodes_c : ∀ (b : Nat) (f : Fm), f.full ≤ b → b < 1099511627776 → PC E 132 [.agg f.view] (.tup [.i f.nodes, .bool f.shape]) := by
  intro b
  induction b with
  | zero => intro f h; have := f.full_pos; omega
  | succ b ih =>
  intro f hsz hb
  have hsz' := f.full_eq
  have hse := f.size_eq
  have hle := f.size_le_full
  have hlen := lsum_len Fm.full Fm.full_pos f.args
  have hlen2 := lsum_len Tm.full Tm.full_pos f.terms
  have hsh := f.shape_eq
  have h1 := formed_c f (by omega)
  cases hh : f.head with
  | false =>
    rw [hh] at h1 hsh
    have e : f.shape = false := by rw [hsh]; rfl
    rw [show f.nodes = 0 by simp [Fm.nodes, e], e]
    refine AC.mk Tryz.func132 rfl rfl rfl rfl rfl (Nat.le_of_ble_eq_true rfl) ?_
    repeat' (first | ((with_reducible refine D.nil ?_); refine AX.nilL ?_) | ((with_reducible refine D.load ?_); refine L.ldb rfl rfl rfl rfl rfl rfl ?_) | ((with_reducible refine D.assign ?_); refine L.asg rfl rfl rfl ?_) | ((with_reducible refine D.call ?_); refine L.c2 (h1) rfl rfl rfl rfl ?_) | ((with_reducible refine D.box ?_); refine L.bx rfl rfl rfl rfl ?_) | ((with_reducible refine D.not ?_); refine L.nt rfl rfl rfl ?_) | ((with_reducible refine D.aw ?_); first | refine K.sq (AW.regL ?_) | refine K.sq (K.sq ?_) | refine AW.regL ?_ | refine AW.condT rfl ?_ | refine AW.ret ?_) | with_reducible refine K.tN ?_ | with_reducible refine K.tR ?_ | with_reducible refine K.r1 (by with_unfolding_all rfl) (by with_unfolding_all rfl) ?_)
    rfl
  | true =>
  rw [hh] at h1 hsh
  refine AC.mk Tryz.func132 rfl rfl rfl rfl rfl (Nat.le_of_ble_eq_true rfl) ?_
  repeat' (first | ((with_reducible refine D.nil ?_); refine AX.nilL ?_) | ((with_reducible refine D.load ?_); refine L.ldb rfl rfl rfl rfl rfl rfl ?_) | ((with_reducible refine D.move ?_); refine L.mv rfl rfl rfl ?_) | ((with_reducible refine D.fieldAddr ?_); refine L.fab rfl rfl rfl rfl rfl ?_) | ((with_reducible refine D.assign ?_); refine L.asg rfl rfl rfl ?_) | ((with_reducible refine D.call ?_); first | refine L.lnt rfl rfl rfl rfl ?_ | refine L.c2 (h1) rfl rfl rfl rfl ?_) | ((with_reducible refine D.box ?_); refine L.bx rfl rfl rfl rfl ?_) | ((with_reducible refine D.not ?_); refine L.nt rfl rfl rfl ?_) | ((with_reducible refine D.aw ?_); first | refine K.sq (AW.regL ?_) | refine K.sq (K.sq ?_) | refine AW.regL ?_ | refine AW.condF rfl ?_ | refine AW.skip ?_) | with_reducible refine K.tN ?_)
  refine AW.range f.terms.length (fun m => ∀ j (hj : j < f.terms.length), j < m → (f.terms[j]).shape = true)
    (fun m => ([(1, .ptr 0 0), (4, .i (1 + ((f.terms.take m).map Tm.size).sum : Nat)), (17, .s .tm f.terms), (18, .i f.terms.length), (19, .i m)], ⟨1, [(0, .var f.view)]⟩))
    (by omega) (fun m => rfl) (fun m => rfl) rfl (fun j hj h => by omega) (Weak.mk [some 0] _ _ _ rfl rfl rfl rfl (by (repeat' (first | exact trivial | refine And.intro ?_ ?_ | refine ⟨_, rfl, _, rfl, ?_⟩ | exact VLe.refl _)); done) (by (repeat' (first | exact trivial | refine And.intro ?_ ?_ | refine ⟨_, rfl, _, rfl, _, rfl, ?_⟩ | exact VLe.refl _)); done)) ?_ ?_
  · intro m hm hP
    have hs1 := lsum_take Tm.size f.terms m hm
    have hs2 := lsum_mem Tm.full (List.getElem_mem hm)
    have hs3 := lsum_take_le Tm.size f.terms m
    have hs4 := lsum_le (f := Tm.size) (g := Tm.full) f.terms fun x _ => x.size_le_full
    have hs5 := f.terms[m].size_le_full
    have hc := termNodes_c _ f.terms[m] (Nat.le_refl _) (by omega)
    cases hx : (f.terms[m]).shape with
    | false =>
      rw [show nodesM f.terms[m] = .tup [.i 0, .bool false] by simp [nodesM, Tm.nodes, hx]] at hc
      have e : f.shape = false := by rw [hsh, all_not Tm.shape hm hx]; rfl
      rw [show f.nodes = 0 by simp [Fm.nodes, e], e]
      repeat' (first | ((with_reducible refine D.nil ?_); refine AX.nilL ?_) | ((with_reducible refine D.load ?_); first | refine L.ldb rfl rfl rfl rfl rfl rfl ?_ | refine L.lda rfl rfl rfl rfl rfl ?_) | ((with_reducible refine D.move ?_); refine L.mv rfl rfl rfl ?_) | ((with_reducible refine D.assign ?_); refine L.asg rfl rfl rfl ?_) | ((with_reducible refine D.call ?_); refine L.c2 (hc) rfl rfl rfl rfl ?_) | ((with_reducible refine D.extract ?_); refine L.ex rfl rfl rfl rfl ?_) | ((with_reducible refine D.alloc ?_); refine L.al rfl rfl rfl ?_) | ((with_reducible refine D.store ?_); refine L.st rfl rfl rfl rfl rfl rfl rfl rfl rfl ?_) | ((with_reducible refine D.indexAddr ?_); refine L.ixt _ rfl rfl rfl rfl rfl rfl rfl (by assumption) ?_) | ((with_reducible refine D.not ?_); refine L.nt rfl rfl rfl ?_) | ((with_reducible refine D.aw ?_); first | refine K.sq (AW.regL ?_) | refine K.sq (K.sq ?_) | refine AW.regL ?_ | refine AW.condT rfl ?_ | refine AW.ret ?_) | with_reducible refine K.tN ?_ | with_reducible refine K.tR ?_ | with_reducible refine K.bR ?_ | with_reducible refine K.gR ?_ | with_reducible refine K.r1 (by with_unfolding_all rfl) (by with_unfolding_all rfl) ?_)
      rfl
    | true =>
      rw [show nodesM f.terms[m] = .tup [.i f.terms[m].size, .bool true] by simp [nodesM, Tm.nodes, hx]] at hc
      repeat' (first | ((with_reducible refine D.nil ?_); refine AX.nilL ?_) | ((with_reducible refine D.load ?_); first | refine L.ldb rfl rfl rfl rfl rfl rfl ?_ | refine L.lda rfl rfl rfl rfl rfl ?_) | ((with_reducible refine D.move ?_); refine L.mv rfl rfl rfl ?_) | ((with_reducible refine D.assign ?_); refine L.asg rfl rfl rfl ?_) | ((with_reducible refine D.bin ?_); refine L.ad rfl rfl rfl rfl (by omega) ?_) | ((with_reducible refine D.call ?_); refine L.c2 (hc) rfl rfl rfl rfl ?_) | ((with_reducible refine D.extract ?_); refine L.ex rfl rfl rfl rfl ?_) | ((with_reducible refine D.alloc ?_); refine L.al rfl rfl rfl ?_) | ((with_reducible refine D.store ?_); refine L.st rfl rfl rfl rfl rfl rfl rfl rfl rfl ?_) | ((with_reducible refine D.indexAddr ?_); refine L.ixt _ rfl rfl rfl rfl rfl rfl rfl (by assumption) ?_) | ((with_reducible refine D.not ?_); refine L.nt rfl rfl rfl ?_) | ((with_reducible refine D.aw ?_); first | refine K.sq (AW.regL ?_) | refine K.sq (K.sq ?_) | refine AW.regL ?_ | refine AW.condF rfl ?_ | refine AW.skip ?_) | with_reducible refine K.tN ?_ | with_reducible refine K.bN ?_)
      refine ⟨rfl, all_step (p := fun t => Tm.shape t = true) hm hP hx, ?_⟩
      simp only [hs1]
      exact (Weak.mk [some 0] _ _ _ rfl rfl rfl rfl (by (repeat' (first | exact trivial | refine And.intro ?_ ?_ | refine ⟨_, rfl, _, rfl, ?_⟩ | exact VLe.refl _ | exact VLe.of_eq (by simp [Sto.upd, Int.natCast_add, Int.add_assoc]))); done) (by (repeat' (first | exact trivial | refine And.intro ?_ ?_ | refine ⟨_, rfl, _, rfl, _, rfl, ?_⟩ | exact VLe.refl _)); done))
  · intro hP
    have hpt := all_of Tm.shape f.terms fun j hj => hP j hj hj
    rw [hpt] at hsh
    simp only [List.take_length]
    repeat' (first | ((with_reducible refine D.nil ?_); refine AX.nilL ?_) | ((with_reducible refine D.load ?_); refine L.ldb rfl rfl rfl rfl rfl rfl ?_) | ((with_reducible refine D.move ?_); refine L.mv rfl rfl rfl ?_) | ((with_reducible refine D.fieldAddr ?_); refine L.fab rfl rfl rfl rfl rfl ?_) | ((with_reducible refine D.call ?_); refine L.lnt rfl rfl rfl rfl ?_) | ((with_reducible refine D.aw ?_); first | refine K.sq (K.sq ?_) | refine AW.regL ?_) | with_reducible refine K.tN ?_)
    refine AW.range f.args.length (fun m => ∀ j (hj : j < f.args.length), j < m → (f.args[j]).shape = true)
      (fun m => ([(1, .ptr 0 0), (4, .i (1 + (f.terms.map Tm.size).sum + ((f.args.take m).map Fm.size).sum : Nat)), (35, .s .fm f.args), (36, .i f.args.length), (37, .i m)], ⟨1, [(0, .var f.view)]⟩))
      (by omega) (fun m => rfl) (fun m => rfl) rfl (fun j hj h => by omega) (Weak.mk [some 0] _ _ _ rfl rfl rfl rfl (by (repeat' (first | exact trivial | refine And.intro ?_ ?_ | refine ⟨_, rfl, _, rfl, ?_⟩ | exact VLe.refl _)); done) (by (repeat' (first | exact trivial | refine And.intro ?_ ?_ | refine ⟨_, rfl, _, rfl, _, rfl, ?_⟩ | exact VLe.refl _)); done)) ?_ ?_
    · intro m hm hP
      have hs0 := lsum_le (f := Tm.size) (g := Tm.full) f.terms fun x _ => x.size_le_full
      have hs1 := lsum_take Fm.size f.args m hm
      have hs2 := lsum_mem Fm.full (List.getElem_mem hm)
      have hs3 := lsum_take_le Fm.size f.args m
      have hs4 := lsum_le (f := Fm.size) (g := Fm.full) f.args fun x _ => x.size_le_full
      have hs5 := f.args[m].size_le_full
      have hc := ih f.args[m] (by omega) (by omega)
      cases hx : (f.args[m]).shape with
      | false =>
        rw [hx, show (f.args[m]).nodes = 0 by simp [Fm.nodes, hx]] at hc
        have e : f.shape = false := by rw [hsh, all_not Fm.shape hm hx]; rfl
        rw [show f.nodes = 0 by simp [Fm.nodes, e], e]
        repeat' (first | ((with_reducible refine D.nil ?_); refine AX.nilL ?_) | ((with_reducible refine D.load ?_); first | refine L.ldb rfl rfl rfl rfl rfl rfl ?_ | refine L.lda rfl rfl rfl rfl rfl ?_) | ((with_reducible refine D.move ?_); refine L.mv rfl rfl rfl ?_) | ((with_reducible refine D.assign ?_); refine L.asg rfl rfl rfl ?_) | ((with_reducible refine D.call ?_); refine L.c2 (hc) rfl rfl rfl rfl ?_) | ((with_reducible refine D.extract ?_); refine L.ex rfl rfl rfl rfl ?_) | ((with_reducible refine D.alloc ?_); refine L.al rfl rfl rfl ?_) | ((with_reducible refine D.store ?_); refine L.st rfl rfl rfl rfl rfl rfl rfl rfl rfl ?_) | ((with_reducible refine D.indexAddr ?_); refine L.ixt _ rfl rfl rfl rfl rfl rfl rfl (by assumption) ?_) | ((with_reducible refine D.not ?_); refine L.nt rfl rfl rfl ?_) | ((with_reducible refine D.aw ?_); first | refine K.sq (AW.regL ?_) | refine K.sq (K.sq ?_) | refine AW.regL ?_ | refine AW.condT rfl ?_ | refine AW.ret ?_) | with_reducible refine K.tN ?_ | with_reducible refine K.tR ?_ | with_reducible refine K.bR ?_ | with_reducible refine K.gR ?_ | with_reducible refine K.r1 (by with_unfolding_all rfl) (by with_unfolding_all rfl) ?_)
        rfl
      | true =>
        rw [hx, show (f.args[m]).nodes = (f.args[m]).size by simp [Fm.nodes, hx]] at hc
        repeat' (first | ((with_reducible refine D.nil ?_); refine AX.nilL ?_) | ((with_reducible refine D.load ?_); first | refine L.ldb rfl rfl rfl rfl rfl rfl ?_ | refine L.lda rfl rfl rfl rfl rfl ?_) | ((with_reducible refine D.move ?_); refine L.mv rfl rfl rfl ?_) | ((with_reducible refine D.assign ?_); refine L.asg rfl rfl rfl ?_) | ((with_reducible refine D.bin ?_); refine L.ad rfl rfl rfl rfl (by omega) ?_) | ((with_reducible refine D.call ?_); refine L.c2 (hc) rfl rfl rfl rfl ?_) | ((with_reducible refine D.extract ?_); refine L.ex rfl rfl rfl rfl ?_) | ((with_reducible refine D.alloc ?_); refine L.al rfl rfl rfl ?_) | ((with_reducible refine D.store ?_); refine L.st rfl rfl rfl rfl rfl rfl rfl rfl rfl ?_) | ((with_reducible refine D.indexAddr ?_); refine L.ixt _ rfl rfl rfl rfl rfl rfl rfl (by assumption) ?_) | ((with_reducible refine D.not ?_); refine L.nt rfl rfl rfl ?_) | ((with_reducible refine D.aw ?_); first | refine K.sq (AW.regL ?_) | refine K.sq (K.sq ?_) | refine AW.regL ?_ | refine AW.condF rfl ?_ | refine AW.skip ?_) | with_reducible refine K.tN ?_ | with_reducible refine K.bN ?_)
        refine ⟨rfl, all_step (p := fun t => Fm.shape t = true) hm hP hx, ?_⟩
        simp only [hs1]
        exact (Weak.mk [some 0] _ _ _ rfl rfl rfl rfl (by (repeat' (first | exact trivial | refine And.intro ?_ ?_ | refine ⟨_, rfl, _, rfl, ?_⟩ | exact VLe.refl _ | exact VLe.of_eq (by simp [Sto.upd, Int.natCast_add, Int.add_assoc]))); done) (by (repeat' (first | exact trivial | refine And.intro ?_ ?_ | refine ⟨_, rfl, _, rfl, _, rfl, ?_⟩ | exact VLe.refl _)); done))
    · intro hP
      have hpa := all_of Fm.shape f.args fun j hj => hP j hj hj
      rw [hpa] at hsh
      have e : f.shape = true := hsh
      rw [show f.nodes = f.size by simp [Fm.nodes, e], e, hse]
      simp only [List.take_length]
      repeat' (first | ((with_reducible refine D.nil ?_); refine AX.nilL ?_) | ((with_reducible refine D.move ?_); refine L.mv rfl rfl rfl ?_) | ((with_reducible refine D.assign ?_); refine L.asg rfl rfl rfl ?_) | ((with_reducible refine D.aw ?_); first | refine K.sq (AW.regL ?_) | refine AW.ret ?_) | with_reducible refine K.tN ?_ | with_reducible refine K.r1 (by with_unfolding_all rfl) (by with_unfolding_all rfl) ?_)
      rfl
theorem checkFm_c (f : Fm) (hf : f.full < 1099511627776) : PC E 87 [.agg f.view] (.tup [.i f.num, .i f.err]) := by
  have h1 := formulaNodes_c _ f (Nat.le_refl _) hf
  have hle := f.size_le_full
  cases hs : f.shape with
  | false =>
    have e : f.err = 2 := by simp [Fm.err, hs]
    rw [hs, show f.nodes = 0 by simp [Fm.nodes, hs]] at h1
    rw [show f.num = 0 by simp [Fm.num, e], e]
    refine AC.mk Tryz.func87 rfl rfl rfl rfl rfl (Nat.le_of_ble_eq_true rfl) ?_
    repeat' (first | ((with_reducible refine D.nil ?_); refine AX.nilL ?_) | ((with_reducible refine D.load ?_); refine L.ldb rfl rfl rfl rfl rfl rfl ?_) | ((with_reducible refine D.move ?_); refine L.mv rfl rfl rfl ?_) | ((with_reducible refine D.assign ?_); refine L.asg rfl rfl rfl ?_) | ((with_reducible refine D.call ?_); refine L.c2 (h1) rfl rfl rfl rfl ?_) | ((with_reducible refine D.extract ?_); refine L.ex rfl rfl rfl rfl ?_) | ((with_reducible refine D.box ?_); refine L.bx rfl rfl rfl rfl ?_) | ((with_reducible refine D.not ?_); refine L.nt rfl rfl rfl ?_) | ((with_reducible refine D.aw ?_); first | ((with_reducible refine D.sblk ?_); refine K.sq (AW.block ?_)) | refine K.sq (AW.regL ?_) | refine AW.condT rfl ?_ | refine AW.ret ?_) | with_reducible refine K.tN ?_ | with_reducible refine K.tR ?_ | with_reducible refine K.bR ?_ | with_reducible refine K.r1 (by with_unfolding_all rfl) (by with_unfolding_all rfl) ?_)
    rfl
  | true =>
    rw [hs, show f.nodes = f.size by simp [Fm.nodes, hs]] at h1
    by_cases hz : f.size > 4096
    · have e : f.err = 4 := by simp [Fm.err, hs, hz]
      rw [show f.num = 0 by simp [Fm.num, e], e]
      refine AC.mk Tryz.func87 rfl rfl rfl rfl rfl (Nat.le_of_ble_eq_true rfl) ?_
      repeat' (first | ((with_reducible refine D.nil ?_); refine AX.nilL ?_) | ((with_reducible refine D.load ?_); refine L.ldb rfl rfl rfl rfl rfl rfl ?_) | ((with_reducible refine D.move ?_); refine L.mv rfl rfl rfl ?_) | ((with_reducible refine D.assign ?_); refine L.asg rfl rfl rfl ?_) | ((with_reducible refine D.bin ?_); refine L.bn rfl rfl rfl rfl rfl ?_) | ((with_reducible refine D.call ?_); refine L.c2 (h1) rfl rfl rfl rfl ?_) | ((with_reducible refine D.extract ?_); refine L.ex rfl rfl rfl rfl ?_) | ((with_reducible refine D.box ?_); refine L.bx rfl rfl rfl rfl ?_) | ((with_reducible refine D.not ?_); refine L.nt rfl rfl rfl ?_) | ((with_reducible refine D.aw ?_); first | ((with_reducible refine D.sblk ?_); refine K.sq (AW.block ?_)) | refine K.sq (AW.regL ?_) | refine AW.condF rfl ?_ | refine AW.condS rfl (fun h => ?_) (fun h => ?_) | refine AW.skip ?_ | refine AW.ret ?_) | with_reducible refine K.tN ?_ | with_reducible refine K.bN ?_ | with_reducible refine K.tR ?_ | with_reducible refine K.bR ?_ | with_reducible refine K.r1 (by with_unfolding_all rfl) (by with_unfolding_all rfl) ?_)
      · rfl
      · exfalso; simp at h; omega
    · have e : f.err = 0 := by simp [Fm.err, hs, hz]
      rw [show f.num = f.size by simp [Fm.num, e], e]
      refine AC.mk Tryz.func87 rfl rfl rfl rfl rfl (Nat.le_of_ble_eq_true rfl) ?_
      repeat' (first | ((with_reducible refine D.nil ?_); refine AX.nilL ?_) | ((with_reducible refine D.load ?_); refine L.ldb rfl rfl rfl rfl rfl rfl ?_) | ((with_reducible refine D.move ?_); refine L.mv rfl rfl rfl ?_) | ((with_reducible refine D.assign ?_); refine L.asg rfl rfl rfl ?_) | ((with_reducible refine D.bin ?_); refine L.bn rfl rfl rfl rfl rfl ?_) | ((with_reducible refine D.call ?_); refine L.c2 (h1) rfl rfl rfl rfl ?_) | ((with_reducible refine D.extract ?_); refine L.ex rfl rfl rfl rfl ?_) | ((with_reducible refine D.box ?_); refine L.bx rfl rfl rfl rfl ?_) | ((with_reducible refine D.not ?_); refine L.nt rfl rfl rfl ?_) | ((with_reducible refine D.aw ?_); first | ((with_reducible refine D.sblk ?_); refine K.sq (AW.block ?_)) | refine K.sq (AW.regL ?_) | refine AW.condF rfl ?_ | refine AW.condS rfl (fun h => ?_) (fun h => ?_) | refine AW.skip ?_ | refine AW.ret ?_) | with_reducible refine K.tN ?_ | with_reducible refine K.bN ?_ | with_reducible refine K.tR ?_ | with_reducible refine K.bR ?_ | with_reducible refine K.r1 (by with_unfolding_all rfl) (by with_unfolding_all rfl) ?_)
      · exfalso; simp at h; omega
      · rfl
theorem fcheck_c (f : Fm) (hf : f.full < 1099511627776) : PC E 42 [.agg f.view] (.i f.err) := by
  have h1 := checkFm_c f hf
  refine AC.mk Tryz.func42 rfl rfl rfl rfl rfl (Nat.le_of_ble_eq_true rfl) ?_
  repeat' (first | ((with_reducible refine D.nil ?_); refine AX.nilL ?_) | ((with_reducible refine D.load ?_); refine L.ldb rfl rfl rfl rfl rfl rfl ?_) | ((with_reducible refine D.move ?_); refine L.mv rfl rfl rfl ?_) | ((with_reducible refine D.assign ?_); refine L.asg rfl rfl rfl ?_) | ((with_reducible refine D.call ?_); refine L.c2 (h1) rfl rfl rfl rfl ?_) | ((with_reducible refine D.extract ?_); refine L.ex rfl rfl rfl rfl ?_) | ((with_reducible refine D.box ?_); refine L.bx rfl rfl rfl rfl ?_) | ((with_reducible refine D.aw ?_); first | refine K.sq (AW.regL ?_) | refine AW.ret ?_) | with_reducible refine K.tN ?_ | with_reducible refine K.r1 (by with_unfolding_all rfl) (by with_unfolding_all rfl) ?_)
  rfl
end Go.Ab
namespace Go.Ab
open Go Go.Proofs
set_option maxRecDepth 100000
set_option maxHeartbeats 4000000
set_option linter.all false
theorem copyFm_c : ∀ (b : Nat) (f : Fm), f.full ≤ b → b < 1099511627776 → PC E 58 [.agg f.view] (.agg f.view) := by
  intro b
  induction b with
  | zero => intro f h; have := f.full_pos; omega
  | succ b ih =>
  intro f hsz hb
  have hsz' := f.full_eq
  have hlen := lsum_len Fm.full Fm.full_pos f.args
  have hlen2 := lsum_len Tm.full Tm.full_pos f.terms
  have hty := copyTy_c _ f.ty (Nat.le_refl _) (by omega)
  refine AC.mk Tryz.func58 rfl rfl rfl rfl rfl (Nat.le_of_ble_eq_true rfl) ?_
  repeat' (first | ((with_reducible refine D.nil ?_); first | refine AX.nilL ?_ | refine AX.nilD (by kernel_rfl) ?_) | ((with_reducible refine D.load ?_); refine L.ldb rfl rfl rfl rfl rfl rfl ?_) | ((with_reducible refine D.move ?_); refine L.mv rfl rfl rfl ?_) | ((with_reducible refine D.fieldAddr ?_); refine L.fab rfl rfl rfl rfl rfl ?_) | ((with_reducible refine D.call ?_); first | refine L.lnt rfl rfl rfl rfl ?_ | refine L.c2 (hty) rfl rfl rfl rfl ?_) | ((with_reducible refine D.box ?_); refine L.bx rfl rfl rfl rfl ?_) | ((with_reducible refine D.alloc ?_); refine L.al rfl rfl rfl ?_) | ((with_reducible refine D.store ?_); refine L.st rfl rfl rfl rfl rfl rfl rfl rfl rfl ?_) | ((with_reducible refine D.ax ?_); refine L.bd rfl rfl rfl rfl rfl ?_) | ((with_reducible refine D.aw ?_); first | refine K.sq (AW.regL ?_) | refine K.sq (AW.regD mixed (by kernel_rfl) ?_) | refine K.sq (K.sq ?_) | refine AW.regL ?_) | with_reducible refine K.tN ?_)
  refine AW.range f.terms.length (fun m => True)
    (fun m => ([(1, .ptr 0 0), (2, .ptr 1 0), (3, .ptr 2 0), (15, .s .tm f.terms), (16, .i f.terms.length), (17, .i m)], ⟨4, [(0, .var f.view), (1, .var [.i 0, .i 0, .slice .nil (.t .ty []), .slice .nil (.t .tm []), .slice .nil (.t .fm [])]), (2, .var [.i f.kind, .i f.ty.kind, .s .ty f.ty.args, .slice (.own 3) (.t .tm (f.terms.take m)), .slice .nil (.t .fm [])]), (3, .row)]⟩))
    (by omega) (fun m => rfl) (fun m => rfl) rfl trivial (Weak.mk [some 0, some 1, some 2, none] _ _ _ rfl rfl rfl rfl (by (repeat' (first | exact trivial | refine And.intro ?_ ?_ | refine ⟨_, rfl, _, rfl, ?_⟩ | exact VLe.refl _)); done) (by (repeat' (first | exact trivial | exact Or.inl rfl | refine And.intro ?_ ?_ | refine ⟨_, rfl, _, rfl, _, rfl, ?_⟩ | exact VLe.refl _)); done)) ?_ ?_
  · intro m hm _
    have hs2 := lsum_mem Tm.full (List.getElem_mem hm)
    repeat' (first | ((with_reducible refine D.nil ?_); first | refine AX.nilL ?_ | refine AX.nilD (by kernel_rfl) ?_) | ((with_reducible refine D.load ?_); first | refine L.ldb rfl rfl rfl rfl rfl rfl ?_ | refine L.lda rfl rfl rfl rfl rfl ?_) | ((with_reducible refine D.fieldAddr ?_); refine L.fab rfl rfl rfl rfl rfl ?_) | ((with_reducible refine D.call ?_); first | refine L.apt rfl rfl rfl rfl rfl rfl (by first | exact trivial | exact ⟨rfl, trivial⟩) rfl rfl (by first | omega | (simp; omega)) ?_ | refine L.c2 (copyTm_c _ _ (Nat.le_refl _) ?_) rfl rfl rfl rfl ?_) | ((with_reducible refine D.alloc ?_); refine L.al rfl rfl rfl ?_) | ((with_reducible refine D.store ?_); refine L.st rfl rfl rfl rfl rfl rfl rfl rfl rfl ?_) | ((with_reducible refine D.indexAddr ?_); refine L.ixt _ rfl rfl rfl rfl rfl rfl rfl (by assumption) ?_) | ((with_reducible refine D.ax ?_); refine L.bs1 rfl rfl rfl rfl rfl (EC.fold_of rfl) rfl rfl ?_) | ((with_reducible refine D.aw ?_); first | refine K.sq (AW.regL ?_) | refine AW.regD mixed (by kernel_rfl) ?_) | with_reducible refine K.tN ?_ | with_reducible refine K.bN ?_ | ((with_reducible show @LT.lt Nat _ _ _); omega))
    exact ⟨rfl, trivial, (Weak.mk [some 0, some 1, some 2, some 5] _ _ _ rfl rfl rfl rfl (by (repeat' (first | exact trivial | refine And.intro ?_ ?_ | refine ⟨_, rfl, _, rfl, ?_⟩ | exact VLe.refl _)); done) (by (repeat' (first | exact trivial | exact Or.inr ⟨_, rfl, rfl⟩ | refine And.intro ?_ ?_ | refine ⟨_, rfl, _, rfl, _, rfl, ?_⟩ | exact VLe.refl _ | exact VLe.of_eq (by simp [Sto.upd, List.take_append_getElem]))); done))⟩
  · intro _
    simp only [List.take_length]
    repeat' (first | ((with_reducible refine D.nil ?_); refine AX.nilL ?_) | ((with_reducible refine D.load ?_); refine L.ldb rfl rfl rfl rfl rfl rfl ?_) | ((with_reducible refine D.move ?_); refine L.mv rfl rfl rfl ?_) | ((with_reducible refine D.fieldAddr ?_); refine L.fab rfl rfl rfl rfl rfl ?_) | ((with_reducible refine D.call ?_); refine L.lnt rfl rfl rfl rfl ?_) | ((with_reducible refine D.aw ?_); first | refine K.sq (K.sq ?_) | refine AW.regL ?_) | with_reducible refine K.tN ?_)
    refine AW.range f.args.length (fun m => True)
      (fun m => ([(1, .ptr 0 0), (2, .ptr 1 0), (3, .ptr 2 0), (30, .s .fm f.args), (31, .i f.args.length), (32, .i m)], ⟨5, [(0, .var f.view), (1, .var [.i 0, .i 0, .slice .nil (.t .ty []), .slice .nil (.t .tm []), .slice .nil (.t .fm [])]), (2, .var [.i f.kind, .i f.ty.kind, .s .ty f.ty.args, .slice (.own 3) (.t .tm f.terms), .slice (.own 4) (.t .fm (f.args.take m))]), (3, .row), (4, .row)]⟩))
      (by omega) (fun m => rfl) (fun m => rfl) rfl trivial (Weak.mk [some 0, some 1, some 2, some 3, none] _ _ _ rfl rfl rfl rfl (by (repeat' (first | exact trivial | refine And.intro ?_ ?_ | refine ⟨_, rfl, _, rfl, ?_⟩ | exact VLe.refl _)); done) (by (repeat' (first | exact trivial | exact Or.inl rfl | exact Or.inr ⟨_, rfl, rfl⟩ | refine And.intro ?_ ?_ | refine ⟨_, rfl, _, rfl, _, rfl, ?_⟩ | exact VLe.refl _)); done)) ?_ ?_
    · intro m hm _
      have hs2 := lsum_mem Fm.full (List.getElem_mem hm)
      repeat' (first | ((with_reducible refine D.nil ?_); first | refine AX.nilL ?_ | refine AX.nilD (by kernel_rfl) ?_) | ((with_reducible refine D.load ?_); first | refine L.ldb rfl rfl rfl rfl rfl rfl ?_ | refine L.lda rfl rfl rfl rfl rfl ?_) | ((with_reducible refine D.fieldAddr ?_); refine L.fab rfl rfl rfl rfl rfl ?_) | ((with_reducible refine D.call ?_); first | refine L.apt rfl rfl rfl rfl rfl rfl (by first | exact trivial | exact ⟨rfl, trivial⟩) rfl rfl (by first | omega | (simp; omega)) ?_ | refine L.c2 (ih _ ?_ ?_) rfl rfl rfl rfl ?_) | ((with_reducible refine D.alloc ?_); refine L.al rfl rfl rfl ?_) | ((with_reducible refine D.store ?_); refine L.st rfl rfl rfl rfl rfl rfl rfl rfl rfl ?_) | ((with_reducible refine D.indexAddr ?_); refine L.ixt _ rfl rfl rfl rfl rfl rfl rfl (by assumption) ?_) | ((with_reducible refine D.ax ?_); refine L.bs1 rfl rfl rfl rfl rfl (EC.fold_of rfl) rfl rfl ?_) | ((with_reducible refine D.aw ?_); first | refine K.sq (AW.regL ?_) | refine AW.regD mixed (by kernel_rfl) ?_) | with_reducible refine K.tN ?_ | with_reducible refine K.bN ?_ | ((with_reducible show @LE.le Nat _ _ _); omega) | ((with_reducible show @LT.lt Nat _ _ _); omega))
      exact ⟨rfl, trivial, (Weak.mk [some 0, some 1, some 2, some 3, some 6] _ _ _ rfl rfl rfl rfl (by (repeat' (first | exact trivial | refine And.intro ?_ ?_ | refine ⟨_, rfl, _, rfl, ?_⟩ | exact VLe.refl _)); done) (by (repeat' (first | exact trivial | exact Or.inr ⟨_, rfl, rfl⟩ | refine And.intro ?_ ?_ | refine ⟨_, rfl, _, rfl, _, rfl, ?_⟩ | exact VLe.refl _ | exact VLe.of_eq (by simp [Sto.upd, List.take_append_getElem]))); done))⟩
    · intro _
      simp only [List.take_length]
      repeat' (first | ((with_reducible refine D.nil ?_); refine AX.nilL ?_) | ((with_reducible refine D.load ?_); refine L.ldb rfl rfl rfl rfl rfl rfl ?_) | ((with_reducible refine D.store ?_); refine L.st rfl rfl rfl rfl rfl rfl rfl rfl rfl ?_) | ((with_reducible refine D.aw ?_); first | refine K.sq (AW.regL ?_) | refine AW.ret ?_) | with_reducible refine K.tN ?_ | with_reducible refine K.r1 (by with_unfolding_all rfl) (by with_unfolding_all rfl) ?_)
      rfl
theorem eqFm_c (a b : Tm) (ha : a.full < 1099511627776) (hb : b.full < 1099511627776) : PC E 36 [.agg a.view, .agg b.view] (.agg (eqF a b).view) := by
  have h1 := copyTm_c _ a (Nat.le_refl _) ha
  have h2 := copyTm_c _ b (Nat.le_refl _) hb
  refine AC.mk Tryz.func36 rfl rfl rfl rfl rfl (Nat.le_of_ble_eq_true rfl) ?_
  repeat' (first | ((with_reducible refine D.nil ?_); first | refine AX.nilL ?_ | refine AX.nilD (by kernel_rfl) ?_) | ((with_reducible refine D.load ?_); refine L.ldb rfl rfl rfl rfl rfl rfl ?_) | ((with_reducible refine D.call ?_); first | refine L.c2 (h1) rfl rfl rfl rfl ?_ | refine L.c2 (h2) rfl rfl rfl rfl ?_) | ((with_reducible refine D.box ?_); refine L.bx rfl rfl rfl rfl ?_) | ((with_reducible refine D.alloc ?_); refine L.al rfl rfl rfl ?_) | ((with_reducible refine D.store ?_); refine L.st rfl rfl rfl rfl rfl rfl rfl rfl rfl ?_) | ((with_reducible refine D.ax ?_); first | refine L.bd rfl rfl rfl rfl rfl ?_ | refine L.bs2 rfl rfl rfl rfl rfl (EC.fold_of rfl) rfl rfl rfl (EC.fold_of rfl) rfl rfl ?_) | ((with_reducible refine D.aw ?_); first | refine K.sq (AW.regL ?_) | refine K.sq (AW.regD mixed (by kernel_rfl) ?_) | refine AW.ret ?_) | with_reducible refine K.tN ?_ | with_reducible refine K.r1 (by with_unfolding_all rfl) (by with_unfolding_all rfl) ?_)
  rfl
theorem twoFm_c (k : Int) (a b : Fm) (ha : a.full < 1099511627776) (hb : b.full < 1099511627776) : PC E 85 [.i k, .agg a.view, .agg b.view] (.agg (Fm.mk k (.mk 0 []) [] [a, b]).view) := by
  have h1 := copyFm_c _ a (Nat.le_refl _) ha
  have h2 := copyFm_c _ b (Nat.le_refl _) hb
  refine AC.mk Tryz.func85 rfl rfl rfl rfl rfl (Nat.le_of_ble_eq_true rfl) ?_
  repeat' (first | ((with_reducible refine D.nil ?_); first | refine AX.nilL ?_ | refine AX.nilD (by kernel_rfl) ?_) | ((with_reducible refine D.load ?_); refine L.ldb rfl rfl rfl rfl rfl rfl ?_) | ((with_reducible refine D.move ?_); refine L.mv rfl rfl rfl ?_) | ((with_reducible refine D.call ?_); first | refine L.c2 (h1) rfl rfl rfl rfl ?_ | refine L.c2 (h2) rfl rfl rfl rfl ?_) | ((with_reducible refine D.box ?_); refine L.bx rfl rfl rfl rfl ?_) | ((with_reducible refine D.alloc ?_); refine L.al rfl rfl rfl ?_) | ((with_reducible refine D.store ?_); refine L.st rfl rfl rfl rfl rfl rfl rfl rfl rfl ?_) | ((with_reducible refine D.ax ?_); first | refine L.bd rfl rfl rfl rfl rfl ?_ | refine L.bs2 rfl rfl rfl rfl rfl (EC.fold_of rfl) rfl rfl rfl (EC.fold_of rfl) rfl rfl ?_) | ((with_reducible refine D.aw ?_); first | refine K.sq (AW.regL ?_) | refine K.sq (AW.regD mixed (by kernel_rfl) ?_) | refine AW.ret ?_) | with_reducible refine K.tN ?_ | with_reducible refine K.r1 (by with_unfolding_all rfl) (by with_unfolding_all rfl) ?_)
  rfl
theorem qFm_c (k : Int) (s : Ty) (f : Fm) (hs : s.size < 1099511627776) (hf : f.full < 1099511627776) : PC E 86 [.i k, .agg s.view, .agg f.view] (.agg (Fm.mk k s [] [f]).view) := by
  have h1 := copyTy_c _ s (Nat.le_refl _) hs
  have h2 := copyFm_c _ f (Nat.le_refl _) hf
  refine AC.mk Tryz.func86 rfl rfl rfl rfl rfl (Nat.le_of_ble_eq_true rfl) ?_
  repeat' (first | ((with_reducible refine D.nil ?_); first | refine AX.nilL ?_ | refine AX.nilD (by kernel_rfl) ?_) | ((with_reducible refine D.load ?_); refine L.ldb rfl rfl rfl rfl rfl rfl ?_) | ((with_reducible refine D.move ?_); refine L.mv rfl rfl rfl ?_) | ((with_reducible refine D.call ?_); first | refine L.c2 (h1) rfl rfl rfl rfl ?_ | refine L.c2 (h2) rfl rfl rfl rfl ?_) | ((with_reducible refine D.box ?_); refine L.bx rfl rfl rfl rfl ?_) | ((with_reducible refine D.alloc ?_); refine L.al rfl rfl rfl ?_) | ((with_reducible refine D.store ?_); refine L.st rfl rfl rfl rfl rfl rfl rfl rfl rfl ?_) | ((with_reducible refine D.ax ?_); first | refine L.bd rfl rfl rfl rfl rfl ?_ | refine L.bs1 rfl rfl rfl rfl rfl (EC.fold_of rfl) rfl rfl ?_) | ((with_reducible refine D.aw ?_); first | refine K.sq (AW.regL ?_) | refine K.sq (AW.regD mixed (by kernel_rfl) ?_) | refine AW.ret ?_) | with_reducible refine K.tN ?_ | with_reducible refine K.r1 (by with_unfolding_all rfl) (by with_unfolding_all rfl) ?_)
  rfl
theorem ownFmCb (t : Tm) (b : Int) (ht : t.full < 1099511627776) : PC E 89 [.agg t.view, .i b] (.agg t.view) := by
  have h1 := ownTm_c _ t (Nat.le_refl _) ht
  refine AC.mk Tryz.func89 rfl rfl rfl rfl rfl (Nat.le_of_ble_eq_true rfl) ?_
  repeat' (first | ((with_reducible refine D.nil ?_); refine AX.nilL ?_) | ((with_reducible refine D.load ?_); refine L.ldb rfl rfl rfl rfl rfl rfl ?_) | ((with_reducible refine D.call ?_); refine L.c2 (h1) rfl rfl rfl rfl ?_) | ((with_reducible refine D.box ?_); refine L.bx rfl rfl rfl rfl ?_) | ((with_reducible refine D.alloc ?_); refine L.al rfl rfl rfl ?_) | ((with_reducible refine D.store ?_); refine L.st rfl rfl rfl rfl rfl rfl rfl rfl rfl ?_) | ((with_reducible refine D.aw ?_); first | refine K.sq (AW.regL ?_) | refine AW.ret ?_) | with_reducible refine K.tN ?_ | with_reducible refine K.r1 (by with_unfolding_all rfl) (by with_unfolding_all rfl) ?_)
  simp [tupV, V.wk, V.wks, constV, Ty.view, Tm.view]
theorem ownFmRe : ∀ (n : Nat) (f : Fm) (bl : Int), f.full ≤ n → n < 549755813888 → 0 ≤ bl → bl + n < 549755813888 → PC E 88 [.agg f.view, .i bl, .fn (.func 89) [] []] (.agg f.view) := by
  intro n
  induction n with
  | zero => intro f bl h; have := f.full_pos; omega
  | succ n ih =>
  intro f bl hsz hb hbl hbn
  have hsz' := f.full_eq
  have hlen := lsum_len Fm.full Fm.full_pos f.args
  have hlen2 := lsum_len Tm.full Tm.full_pos f.terms
  have hty := ownTy_c _ f.ty (Nat.le_refl _) (by omega)
  have hq := quantifier_c f.kind
  refine AC.mk Tryz.func88 rfl rfl rfl rfl rfl (Nat.le_of_ble_eq_true rfl) ?_
  repeat' (first | ((with_reducible refine D.nil ?_); first | refine AX.nilL ?_ | refine AX.nilD (by kernel_rfl) ?_) | ((with_reducible refine D.load ?_); refine L.ldb rfl rfl rfl rfl rfl rfl ?_) | ((with_reducible refine D.move ?_); refine L.mv rfl rfl rfl ?_) | ((with_reducible refine D.fieldAddr ?_); refine L.fab rfl rfl rfl rfl rfl ?_) | ((with_reducible refine D.call ?_); first | refine L.lnt rfl rfl rfl rfl ?_ | refine L.c2 (hty) rfl rfl rfl rfl ?_) | ((with_reducible refine D.box ?_); refine L.bx rfl rfl rfl rfl ?_) | ((with_reducible refine D.alloc ?_); refine L.al rfl rfl rfl ?_) | ((with_reducible refine D.store ?_); refine L.st rfl rfl rfl rfl rfl rfl rfl rfl rfl ?_) | ((with_reducible refine D.ax ?_); refine L.bd rfl rfl rfl rfl rfl ?_) | ((with_reducible refine D.aw ?_); first | refine K.sq (AW.regL ?_) | refine K.sq (AW.regD mixed (by kernel_rfl) ?_) | refine K.sq (K.sq ?_) | refine AW.regL ?_) | with_reducible refine K.tN ?_)
  refine AW.range f.terms.length (fun m => True)
    (fun m => ([(1, .i bl), (2, .fn (.func 89) [] []), (3, .ptr 0 0), (6, .ptr 1 0), (7, .ptr 2 0), (19, .s .tm f.terms), (20, .i f.terms.length), (21, .i m)], ⟨4, [(0, .var f.view), (1, .var [.i 0, .i 0, .slice .nil (.t .ty []), .slice .nil (.t .tm []), .slice .nil (.t .fm [])]), (2, .var [.i f.kind, .i f.ty.kind, .s .ty f.ty.args, .slice (.own 3) (.t .tm (f.terms.take m)), .slice .nil (.t .fm [])]), (3, .row)]⟩))
    (by omega) (fun m => rfl) (fun m => rfl) rfl trivial (Weak.mk [some 0, some 1, some 2, none] _ _ _ rfl rfl rfl rfl (by (repeat' (first | exact trivial | refine And.intro ?_ ?_ | refine ⟨_, rfl, _, rfl, ?_⟩ | exact VLe.refl _)); done) (by (repeat' (first | exact trivial | exact Or.inl rfl | refine And.intro ?_ ?_ | refine ⟨_, rfl, _, rfl, _, rfl, ?_⟩ | exact VLe.refl _)); done)) ?_ ?_
  · intro m hm _
    have hs2 := lsum_mem Tm.full (List.getElem_mem hm)
    have hc := ownFmCb f.terms[m] bl (by omega)
    repeat' (first | ((with_reducible refine D.nil ?_); first | refine AX.nilL ?_ | refine AX.nilD (by kernel_rfl) ?_) | ((with_reducible refine D.load ?_); first | refine L.ldb rfl rfl rfl rfl rfl rfl ?_ | refine L.lda rfl rfl rfl rfl rfl ?_) | ((with_reducible refine D.move ?_); refine L.mv rfl rfl rfl ?_) | ((with_reducible refine D.fieldAddr ?_); refine L.fab rfl rfl rfl rfl rfl ?_) | ((with_reducible refine D.call ?_); first | refine L.apt rfl rfl rfl rfl rfl rfl (by first | exact trivial | exact ⟨rfl, trivial⟩) rfl rfl (by first | omega | (simp; omega)) ?_ | (apply L.cv2 (hc) [] 0 rfl; rfl; rfl; rfl; rfl; rfl; rfl; rfl; (focus ((repeat' (first | exact trivial)); done)); rfl; rfl; rfl; rfl)) | ((with_reducible refine D.alloc ?_); refine L.al rfl rfl rfl ?_) | ((with_reducible refine D.store ?_); refine L.st rfl rfl rfl rfl rfl rfl rfl rfl rfl ?_) | ((with_reducible refine D.indexAddr ?_); refine L.ixt _ rfl rfl rfl rfl rfl rfl rfl (by assumption) ?_) | ((with_reducible refine D.ax ?_); refine L.bs1 rfl rfl rfl rfl rfl (EC.fold_of rfl) rfl rfl ?_) | ((with_reducible refine D.aw ?_); first | refine K.sq (AW.regL ?_) | refine AW.regD mixed (by kernel_rfl) ?_) | with_reducible refine K.tN ?_ | with_reducible refine K.bN ?_)
    exact ⟨rfl, trivial, (Weak.mk [some 0, some 1, some 2, some 5] _ _ _ rfl rfl rfl rfl (by (repeat' (first | exact trivial | refine And.intro ?_ ?_ | refine ⟨_, rfl, _, rfl, ?_⟩ | exact VLe.refl _)); done) (by (repeat' (first | exact trivial | exact Or.inr ⟨_, rfl, rfl⟩ | refine And.intro ?_ ?_ | refine ⟨_, rfl, _, rfl, _, rfl, ?_⟩ | exact VLe.refl _ | exact VLe.of_eq (by simp [Sto.upd, List.take_append_getElem]))); done))⟩
  · intro _
    simp only [List.take_length]
    cases hqk : quantK f.kind with
    | true =>
      rw [hqk] at hq
      repeat' (first | ((with_reducible refine D.nil ?_); refine AX.nilL ?_) | ((with_reducible refine D.load ?_); refine L.ldb rfl rfl rfl rfl rfl rfl ?_) | ((with_reducible refine D.move ?_); refine L.mv rfl rfl rfl ?_) | ((with_reducible refine D.fieldAddr ?_); refine L.fab rfl rfl rfl rfl rfl ?_) | ((with_reducible refine D.assign ?_); refine L.asg rfl rfl rfl ?_) | ((with_reducible refine D.bin ?_); refine L.ad rfl rfl rfl rfl (by omega) ?_) | ((with_reducible refine D.call ?_); first | refine L.lnt rfl rfl rfl rfl ?_ | refine L.c2 (hq) rfl rfl rfl rfl ?_) | ((with_reducible refine D.aw ?_); first | refine K.sq (K.sq ?_) | refine AW.regL ?_ | refine AW.condT rfl ?_) | with_reducible refine K.tN ?_)
      refine AW.range f.args.length (fun m => True)
        (fun m => ([(1, .i (bl + 1)), (2, .fn (.func 89) [] []), (3, .ptr 0 0), (6, .ptr 1 0), (7, .ptr 2 0), (41, .s .fm f.args), (42, .i f.args.length), (43, .i m)], ⟨5, [(0, .var f.view), (1, .var [.i 0, .i 0, .slice .nil (.t .ty []), .slice .nil (.t .tm []), .slice .nil (.t .fm [])]), (2, .var [.i f.kind, .i f.ty.kind, .s .ty f.ty.args, .slice (.own 3) (.t .tm f.terms), .slice (.own 4) (.t .fm (f.args.take m))]), (3, .row), (4, .row)]⟩))
        (by omega) (fun m => rfl) (fun m => rfl) rfl trivial (Weak.mk [some 0, some 1, some 2, some 3, none] _ _ _ rfl rfl rfl rfl (by (repeat' (first | exact trivial | refine And.intro ?_ ?_ | refine ⟨_, rfl, _, rfl, ?_⟩ | exact VLe.refl _)); done) (by (repeat' (first | exact trivial | exact Or.inl rfl | exact Or.inr ⟨_, rfl, rfl⟩ | refine And.intro ?_ ?_ | refine ⟨_, rfl, _, rfl, _, rfl, ?_⟩ | exact VLe.refl _)); done)) ?_ ?_
      · intro m hm _
        have hs2 := lsum_mem Fm.full (List.getElem_mem hm)
        have hc := ih f.args[m] (bl + 1) (by omega) (by omega) (by omega) (by omega)
        repeat' (first | ((with_reducible refine D.nil ?_); first | refine AX.nilL ?_ | refine AX.nilD (by kernel_rfl) ?_) | ((with_reducible refine D.load ?_); first | refine L.ldb rfl rfl rfl rfl rfl rfl ?_ | refine L.lda rfl rfl rfl rfl rfl ?_) | ((with_reducible refine D.move ?_); refine L.mv rfl rfl rfl ?_) | ((with_reducible refine D.fieldAddr ?_); refine L.fab rfl rfl rfl rfl rfl ?_) | ((with_reducible refine D.call ?_); first | refine L.apt rfl rfl rfl rfl rfl rfl (by first | exact trivial | exact ⟨rfl, trivial⟩) rfl rfl (by first | omega | (simp; omega)) ?_ | refine L.c2 (hc) rfl rfl rfl rfl ?_) | ((with_reducible refine D.alloc ?_); refine L.al rfl rfl rfl ?_) | ((with_reducible refine D.store ?_); refine L.st rfl rfl rfl rfl rfl rfl rfl rfl rfl ?_) | ((with_reducible refine D.indexAddr ?_); refine L.ixt _ rfl rfl rfl rfl rfl rfl rfl (by assumption) ?_) | ((with_reducible refine D.ax ?_); refine L.bs1 rfl rfl rfl rfl rfl (EC.fold_of rfl) rfl rfl ?_) | ((with_reducible refine D.aw ?_); first | refine K.sq (AW.regL ?_) | refine AW.regD mixed (by kernel_rfl) ?_) | with_reducible refine K.tN ?_ | with_reducible refine K.bN ?_)
        exact ⟨rfl, trivial, (Weak.mk [some 0, some 1, some 2, some 3, some 6] _ _ _ rfl rfl rfl rfl (by (repeat' (first | exact trivial | refine And.intro ?_ ?_ | refine ⟨_, rfl, _, rfl, ?_⟩ | exact VLe.refl _)); done) (by (repeat' (first | exact trivial | exact Or.inr ⟨_, rfl, rfl⟩ | refine And.intro ?_ ?_ | refine ⟨_, rfl, _, rfl, _, rfl, ?_⟩ | exact VLe.refl _ | exact VLe.of_eq (by simp [Sto.upd, List.take_append_getElem]))); done))⟩
      · intro _
        simp only [List.take_length]
        repeat' (first | ((with_reducible refine D.nil ?_); refine AX.nilL ?_) | ((with_reducible refine D.load ?_); refine L.ldb rfl rfl rfl rfl rfl rfl ?_) | ((with_reducible refine D.store ?_); refine L.st rfl rfl rfl rfl rfl rfl rfl rfl rfl ?_) | ((with_reducible refine D.aw ?_); first | refine K.sq (AW.regL ?_) | refine AW.ret ?_) | with_reducible refine K.tN ?_ | with_reducible refine K.r1 (by with_unfolding_all rfl) (by with_unfolding_all rfl) ?_)
        rfl
    | false =>
      rw [hqk] at hq
      repeat' (first | ((with_reducible refine D.nil ?_); refine AX.nilL ?_) | ((with_reducible refine D.load ?_); refine L.ldb rfl rfl rfl rfl rfl rfl ?_) | ((with_reducible refine D.move ?_); refine L.mv rfl rfl rfl ?_) | ((with_reducible refine D.fieldAddr ?_); refine L.fab rfl rfl rfl rfl rfl ?_) | ((with_reducible refine D.call ?_); first | refine L.lnt rfl rfl rfl rfl ?_ | refine L.c2 (hq) rfl rfl rfl rfl ?_) | ((with_reducible refine D.aw ?_); first | refine K.sq (K.sq ?_) | refine AW.regL ?_ | refine AW.condF rfl ?_ | refine AW.skip ?_) | with_reducible refine K.tN ?_)
      refine AW.range f.args.length (fun m => True)
        (fun m => ([(1, .i bl), (2, .fn (.func 89) [] []), (3, .ptr 0 0), (6, .ptr 1 0), (7, .ptr 2 0), (41, .s .fm f.args), (42, .i f.args.length), (43, .i m)], ⟨5, [(0, .var f.view), (1, .var [.i 0, .i 0, .slice .nil (.t .ty []), .slice .nil (.t .tm []), .slice .nil (.t .fm [])]), (2, .var [.i f.kind, .i f.ty.kind, .s .ty f.ty.args, .slice (.own 3) (.t .tm f.terms), .slice (.own 4) (.t .fm (f.args.take m))]), (3, .row), (4, .row)]⟩))
        (by omega) (fun m => rfl) (fun m => rfl) rfl trivial (Weak.mk [some 0, some 1, some 2, some 3, none] _ _ _ rfl rfl rfl rfl (by (repeat' (first | exact trivial | refine And.intro ?_ ?_ | refine ⟨_, rfl, _, rfl, ?_⟩ | exact VLe.refl _)); done) (by (repeat' (first | exact trivial | exact Or.inl rfl | exact Or.inr ⟨_, rfl, rfl⟩ | refine And.intro ?_ ?_ | refine ⟨_, rfl, _, rfl, _, rfl, ?_⟩ | exact VLe.refl _)); done)) ?_ ?_
      · intro m hm _
        have hs2 := lsum_mem Fm.full (List.getElem_mem hm)
        have hc := ih f.args[m] bl (by omega) (by omega) (by omega) (by omega)
        repeat' (first | ((with_reducible refine D.nil ?_); first | refine AX.nilL ?_ | refine AX.nilD (by kernel_rfl) ?_) | ((with_reducible refine D.load ?_); first | refine L.ldb rfl rfl rfl rfl rfl rfl ?_ | refine L.lda rfl rfl rfl rfl rfl ?_) | ((with_reducible refine D.move ?_); refine L.mv rfl rfl rfl ?_) | ((with_reducible refine D.fieldAddr ?_); refine L.fab rfl rfl rfl rfl rfl ?_) | ((with_reducible refine D.call ?_); first | refine L.apt rfl rfl rfl rfl rfl rfl (by first | exact trivial | exact ⟨rfl, trivial⟩) rfl rfl (by first | omega | (simp; omega)) ?_ | refine L.c2 (hc) rfl rfl rfl rfl ?_) | ((with_reducible refine D.alloc ?_); refine L.al rfl rfl rfl ?_) | ((with_reducible refine D.store ?_); refine L.st rfl rfl rfl rfl rfl rfl rfl rfl rfl ?_) | ((with_reducible refine D.indexAddr ?_); refine L.ixt _ rfl rfl rfl rfl rfl rfl rfl (by assumption) ?_) | ((with_reducible refine D.ax ?_); refine L.bs1 rfl rfl rfl rfl rfl (EC.fold_of rfl) rfl rfl ?_) | ((with_reducible refine D.aw ?_); first | refine K.sq (AW.regL ?_) | refine AW.regD mixed (by kernel_rfl) ?_) | with_reducible refine K.tN ?_ | with_reducible refine K.bN ?_)
        exact ⟨rfl, trivial, (Weak.mk [some 0, some 1, some 2, some 3, some 6] _ _ _ rfl rfl rfl rfl (by (repeat' (first | exact trivial | refine And.intro ?_ ?_ | refine ⟨_, rfl, _, rfl, ?_⟩ | exact VLe.refl _)); done) (by (repeat' (first | exact trivial | exact Or.inr ⟨_, rfl, rfl⟩ | refine And.intro ?_ ?_ | refine ⟨_, rfl, _, rfl, _, rfl, ?_⟩ | exact VLe.refl _ | exact VLe.of_eq (by simp [Sto.upd, List.take_append_getElem]))); done))⟩
      · intro _
        simp only [List.take_length]
        repeat' (first | ((with_reducible refine D.nil ?_); refine AX.nilL ?_) | ((with_reducible refine D.load ?_); refine L.ldb rfl rfl rfl rfl rfl rfl ?_) | ((with_reducible refine D.store ?_); refine L.st rfl rfl rfl rfl rfl rfl rfl rfl rfl ?_) | ((with_reducible refine D.aw ?_); first | refine K.sq (AW.regL ?_) | refine AW.ret ?_) | with_reducible refine K.tN ?_ | with_reducible refine K.r1 (by with_unfolding_all rfl) (by with_unfolding_all rfl) ?_)
        rfl
theorem ownFm_c (f : Fm) (hf : f.full < 274877906944) : PC E 43 [.agg f.view] (.agg f.view) := by
  have h1 := ownFmRe _ f 0 (Nat.le_refl _) (by omega) (by omega) (by omega)
  refine AC.mk Tryz.func43 rfl rfl rfl rfl rfl (Nat.le_of_ble_eq_true rfl) ?_
  repeat' (first | ((with_reducible refine D.nil ?_); refine AX.nilL ?_) | ((with_reducible refine D.load ?_); refine L.ldb rfl rfl rfl rfl rfl rfl ?_) | ((with_reducible refine D.call ?_); refine L.c2 (h1) rfl rfl rfl rfl ?_) | ((with_reducible refine D.box ?_); refine L.bx rfl rfl rfl rfl ?_) | ((with_reducible refine D.alloc ?_); refine L.al rfl rfl rfl ?_) | ((with_reducible refine D.store ?_); refine L.st rfl rfl rfl rfl rfl rfl rfl rfl rfl ?_) | ((with_reducible refine D.aw ?_); first | refine K.sq (AW.regL ?_) | refine AW.ret ?_) | with_reducible refine K.tN ?_ | with_reducible refine K.r1 (by with_unfolding_all rfl) (by with_unfolding_all rfl) ?_)
  rfl
end Go.Ab
namespace Go.Ab
open Go Go.Proofs
set_option maxRecDepth 100000
set_option maxHeartbeats 4000000
set_option linter.all false
theorem type0_c (d : Dk) (h : d.ok) : AC E 27 [.ptr 0 0, .i 0] ⟨1, [(0, .var d.cells)]⟩ (.agg (d.type 0).1.view) ⟨1, [(0, .var (d.type 0).2.cells)]⟩ := type_c 0 0 d (by omega) (by omega) (by omega) h
theorem mkFm_c : ∀ (n : Nat) (d : Dk) (g : List Ty) (k : Int), n ≤ 3 → k = n → d.ok → smalls g → g.length + n ≤ 5000 →
    AC E 41 [.ptr 0 0, .s .ty g, .i k] ⟨1, [(0, .var d.cells)]⟩ (.agg (Dk.fm n d g).1.view) ⟨1, [(0, .var (Dk.fm n d g).2.cells)]⟩ := by
  have bd : ∀ (n : Nat) (d : Dk) (g : List Ty), n ≤ 3 → smalls g → (Dk.fm n d g).1.full ≤ 10000 := fun n d g hn hg => by
    have h1 := (Dk.fm_good n d g hg).2.2
    have h2 : 2 ^ n ≤ 2 ^ 3 := Nat.pow_le_pow_right (by omega) hn
    omega
  have eqc : ∀ (d : Dk) (g : List Ty), d.ok → smalls g → g.length ≤ 5000 → ∃ (x : Tm) (d1 : Dk) (y : Tm) (d2 : Dk), d.eqf g = (eqF x y, d2) ∧ x.full ≤ 1000 ∧ y.full ≤ 1000 ∧
      AC E 28 [.ptr 0 0, .s .ty g, .agg natT.view, .i 1] ⟨1, [(0, .var d.cells)]⟩ (.agg x.view) ⟨1, [(0, .var d1.cells)]⟩ ∧
      AC E 28 [.ptr 0 0, .s .ty g, .agg natT.view, .i 1] ⟨1, [(0, .var d1.cells)]⟩ (.agg y.view) ⟨1, [(0, .var d2.cells)]⟩ := fun d g hd hg hl => by
    have d1 := Dk.tm_ok 3 d g natT hd
    have m1 := (Dk.tm_mk 3 d g natT hg small_nat (by omega) (by omega)).full hg small_nat
    have m2 := (Dk.tm_mk 3 (Dk.tm 3 d g natT).2 g natT hg small_nat (by omega) (by omega)).full hg small_nat
    exact ⟨_, _, _, _, rfl, by omega, by omega, term_c 3 (by omega) d g natT 1 (by omega) hd hg small_nat (by omega) (by omega) (by omega),
      term_c 3 (by omega) (Dk.tm 3 d g natT).2 g natT 1 (by omega) d1 hg small_nat (by omega) (by omega) (by omega)⟩
  intro n
  induction n with
  | zero =>
    intro d g k _ hk hd hg hl
    obtain ⟨x, d1, y, d2, e, fx, fy, h1, h2⟩ := eqc d g hd hg (by omega)
    have he := eqFm_c x y (by omega) (by omega)
    rw [show Dk.fm 0 d g = (eqF x y, d2) from e]
    obtain rfl : k = 0 := hk
    refine AC.mk Tryz.func41 rfl rfl rfl rfl rfl (Nat.le_of_ble_eq_true rfl) ?_
    repeat' (first | ((with_reducible refine D.nil ?_); first | refine AX.nilL ?_ | refine AX.nilD (by kernel_rfl) ?_) | ((with_reducible refine D.load ?_); refine L.ldb rfl rfl rfl rfl rfl rfl ?_) | ((with_reducible refine D.move ?_); refine L.mv rfl rfl rfl ?_) | ((with_reducible refine D.bin ?_); refine L.bn rfl rfl rfl rfl rfl ?_) | ((with_reducible refine D.call ?_); first | refine L.c2 (nat_c) rfl rfl rfl rfl ?_ | (apply L.cb2 (h1) [0] 0 rfl; rfl; rfl; rfl; rfl; rfl; rfl; (focus ((repeat' (first | exact trivial | refine And.intro ?_ ?_ | refine ⟨_, rfl, _, rfl, _, rfl, ?_⟩ | exact VLe.refl _)); done)); rfl; rfl; rfl; rfl) | (apply L.cb2 (h2) [0] 0 rfl; rfl; rfl; rfl; rfl; rfl; rfl; (focus ((repeat' (first | exact trivial | refine And.intro ?_ ?_ | refine ⟨_, rfl, _, rfl, _, rfl, ?_⟩ | exact VLe.refl _)); done)); rfl; rfl; rfl; rfl) | refine L.c2 (he) rfl rfl rfl rfl ?_) | ((with_reducible refine D.alloc ?_); refine L.al rfl rfl rfl ?_) | ((with_reducible refine D.store ?_); refine L.st rfl rfl rfl rfl rfl rfl rfl rfl rfl ?_) | ((with_reducible refine D.aw ?_); first | refine K.sq (AW.regL ?_) | refine K.sq (AW.regD mixed (by kernel_rfl) ?_) | refine K.sq (K.sq ?_) | refine AW.regL ?_ | refine AW.condF rfl ?_ | refine AW.skip ?_ | refine AW.ret ?_) | with_reducible refine K.tN ?_)
    (exact K.n2 [some 0] rfl rfl rfl rfl rfl (by (repeat' (first | exact trivial | refine And.intro ?_ ?_ | refine ⟨_, rfl, _, rfl, _, rfl, ?_⟩ | exact VLe.refl _)); done) rfl (by simp [tupV, V.wk, V.wks, constV, Ty.view, Tm.view, eqF, Fm.view]))
  | succ n ih =>
  intro d g k hn hk hd hg hl
  have h9 := next_c d 9 hd (by omega)
  have hbd := Dk.next_bd d 9 (by omega)
  have d9 := Dk.next_ok hd 9
  have hkp : k > 0 := by omega
  have efm : Dk.fm (n + 1) d g = Dk.fm (n + 1) d g := rfl
  conv at efm => rhs; rw [Dk.fm]
  generalize hr : (d.next 9).1 = r at *
  generalize (d.next 9).2 = e1 at *
  have hr9 : r = 0 ∨ r = 1 ∨ r = 2 ∨ r = 3 ∨ r = 4 ∨ r = 5 ∨ r = 6 ∨ r = 7 ∨ r = 8 := by omega
  rcases hr9 with rfl | rfl | rfl | rfl | rfl | rfl | rfl | rfl | rfl
  · simp only [show ((0 : Int) = 1) = False by simp, show ((0 : Int) = 2) = False by simp, show ((0 : Int) = 3) = False by simp, show ((0 : Int) = 4) = False by simp, show ((0 : Int) = 5) = False by simp, show ((0 : Int) = 6) = False by simp, if_false, if_true, or_self, or_true, true_or, or_false, false_or] at efm
    rw [efm]
    have a1 := ih e1 g (k - 1) (by omega) (by omega) d9 hg (by omega)
    have f1 := bd n e1 g (by omega) hg
    have k1 := Dk.fm_ok n e1 g d9
    generalize (Dk.fm n e1 g).1 = x at *
    generalize (Dk.fm n e1 g).2 = e2 at *
    have a2 := ih e2 g (k - 1) (by omega) (by omega) k1 hg (by omega)
    have f2 := bd n e2 g (by omega) hg
    generalize (Dk.fm n e2 g).1 = y at *
    generalize (Dk.fm n e2 g).2 = e3 at *
    have hw := twoFm_c 2 x y (by omega) (by omega)
    refine AC.mk Tryz.func41 rfl rfl rfl rfl rfl (Nat.le_of_ble_eq_true rfl) ?_
    repeat' (first | ((with_reducible refine D.nil ?_); refine AX.nilL ?_) | ((with_reducible refine D.move ?_); refine L.mv rfl rfl rfl ?_) | ((with_reducible refine D.assign ?_); refine L.asg rfl rfl rfl ?_) | ((with_reducible refine D.bin ?_); first | refine L.sb rfl rfl rfl rfl (by omega) ?_ | refine L.bn rfl rfl rfl rfl rfl ?_) | ((with_reducible refine D.call ?_); first | (apply L.cb2 (h9) [0] 0 rfl; rfl; rfl; rfl; rfl; rfl; rfl; (focus ((repeat' (first | exact trivial | refine And.intro ?_ ?_ | refine ⟨_, rfl, _, rfl, _, rfl, ?_⟩ | exact VLe.refl _)); done)); rfl; rfl; rfl; rfl) | (apply L.cb2 (a1) [0] 0 rfl; rfl; rfl; rfl; rfl; rfl; rfl; (focus ((repeat' (first | exact trivial | refine And.intro ?_ ?_ | refine ⟨_, rfl, _, rfl, _, rfl, ?_⟩ | exact VLe.refl _)); done)); rfl; rfl; rfl; rfl) | (apply L.cb2 (a2) [0] 0 rfl; rfl; rfl; rfl; rfl; rfl; rfl; (focus ((repeat' (first | exact trivial | refine And.intro ?_ ?_ | refine ⟨_, rfl, _, rfl, _, rfl, ?_⟩ | exact VLe.refl _)); done)); rfl; rfl; rfl; rfl) | refine L.c2 (hw) rfl rfl rfl rfl ?_) | ((with_reducible refine D.alloc ?_); refine L.al rfl rfl rfl ?_) | ((with_reducible refine D.store ?_); refine L.st rfl rfl rfl rfl rfl rfl rfl rfl rfl ?_) | ((with_reducible refine D.aw ?_); first | ((with_reducible refine D.blk ?_); refine AW.block ?_) | refine K.sq (AW.regL ?_) | refine K.sq (K.sq ?_) | refine AW.regL ?_ | refine AW.condT rfl ?_ | refine AW.condS rfl (fun h => ?_) (fun h => ?_) | refine AW.skip ?_ | refine AW.ret ?_) | with_reducible refine K.tN ?_ | with_reducible refine K.tR ?_ | with_reducible refine K.bR ?_)
    all_goals first
      | (exfalso; simp at h; omega)
      | skip
    (exact K.n2 [some 0] rfl rfl rfl rfl rfl (by (repeat' (first | exact trivial | refine And.intro ?_ ?_ | refine ⟨_, rfl, _, rfl, _, rfl, ?_⟩ | exact VLe.refl _)); done) rfl (by simp [tupV, V.wk, V.wks, constV, Ty.view, Tm.view, twoF, Fm.view]))
  · simp only [show ((1 : Int) = 0) = False by simp, show ((1 : Int) = 2) = False by simp, show ((1 : Int) = 3) = False by simp, show ((1 : Int) = 4) = False by simp, show ((1 : Int) = 5) = False by simp, show ((1 : Int) = 6) = False by simp, if_false, if_true, or_self, or_true, true_or, or_false, false_or] at efm
    rw [efm]
    have a1 := ih e1 g (k - 1) (by omega) (by omega) d9 hg (by omega)
    have f1 := bd n e1 g (by omega) hg
    have k1 := Dk.fm_ok n e1 g d9
    generalize (Dk.fm n e1 g).1 = x at *
    generalize (Dk.fm n e1 g).2 = e2 at *
    have a2 := ih e2 g (k - 1) (by omega) (by omega) k1 hg (by omega)
    have f2 := bd n e2 g (by omega) hg
    generalize (Dk.fm n e2 g).1 = y at *
    generalize (Dk.fm n e2 g).2 = e3 at *
    have hw := twoFm_c 3 x y (by omega) (by omega)
    refine AC.mk Tryz.func41 rfl rfl rfl rfl rfl (Nat.le_of_ble_eq_true rfl) ?_
    repeat' (first | ((with_reducible refine D.nil ?_); refine AX.nilL ?_) | ((with_reducible refine D.move ?_); refine L.mv rfl rfl rfl ?_) | ((with_reducible refine D.assign ?_); refine L.asg rfl rfl rfl ?_) | ((with_reducible refine D.bin ?_); first | refine L.sb rfl rfl rfl rfl (by omega) ?_ | refine L.bn rfl rfl rfl rfl rfl ?_) | ((with_reducible refine D.call ?_); first | (apply L.cb2 (h9) [0] 0 rfl; rfl; rfl; rfl; rfl; rfl; rfl; (focus ((repeat' (first | exact trivial | refine And.intro ?_ ?_ | refine ⟨_, rfl, _, rfl, _, rfl, ?_⟩ | exact VLe.refl _)); done)); rfl; rfl; rfl; rfl) | (apply L.cb2 (a1) [0] 0 rfl; rfl; rfl; rfl; rfl; rfl; rfl; (focus ((repeat' (first | exact trivial | refine And.intro ?_ ?_ | refine ⟨_, rfl, _, rfl, _, rfl, ?_⟩ | exact VLe.refl _)); done)); rfl; rfl; rfl; rfl) | (apply L.cb2 (a2) [0] 0 rfl; rfl; rfl; rfl; rfl; rfl; rfl; (focus ((repeat' (first | exact trivial | refine And.intro ?_ ?_ | refine ⟨_, rfl, _, rfl, _, rfl, ?_⟩ | exact VLe.refl _)); done)); rfl; rfl; rfl; rfl) | refine L.c2 (hw) rfl rfl rfl rfl ?_) | ((with_reducible refine D.alloc ?_); refine L.al rfl rfl rfl ?_) | ((with_reducible refine D.store ?_); refine L.st rfl rfl rfl rfl rfl rfl rfl rfl rfl ?_) | ((with_reducible refine D.aw ?_); first | ((with_reducible refine D.blk ?_); refine AW.block ?_) | refine K.sq (AW.regL ?_) | refine K.sq (K.sq ?_) | refine AW.regL ?_ | refine AW.condT rfl ?_ | refine AW.condF rfl ?_ | refine AW.condS rfl (fun h => ?_) (fun h => ?_) | refine AW.skip ?_ | refine AW.ret ?_) | with_reducible refine K.tN ?_ | with_reducible refine K.tR ?_ | with_reducible refine K.bR ?_)
    all_goals first
      | (exfalso; simp at h; omega)
      | skip
    (exact K.n2 [some 0] rfl rfl rfl rfl rfl (by (repeat' (first | exact trivial | refine And.intro ?_ ?_ | refine ⟨_, rfl, _, rfl, _, rfl, ?_⟩ | exact VLe.refl _)); done) rfl (by simp [tupV, V.wk, V.wks, constV, Ty.view, Tm.view, twoF, Fm.view]))
  · simp only [show ((2 : Int) = 0) = False by simp, show ((2 : Int) = 1) = False by simp, show ((2 : Int) = 3) = False by simp, show ((2 : Int) = 4) = False by simp, show ((2 : Int) = 5) = False by simp, show ((2 : Int) = 6) = False by simp, if_false, if_true, or_self, or_true, true_or, or_false, false_or] at efm
    rw [efm]
    have a1 := ih e1 g (k - 1) (by omega) (by omega) d9 hg (by omega)
    have f1 := bd n e1 g (by omega) hg
    have k1 := Dk.fm_ok n e1 g d9
    generalize (Dk.fm n e1 g).1 = x at *
    generalize (Dk.fm n e1 g).2 = e2 at *
    have a2 := ih e2 g (k - 1) (by omega) (by omega) k1 hg (by omega)
    have f2 := bd n e2 g (by omega) hg
    generalize (Dk.fm n e2 g).1 = y at *
    generalize (Dk.fm n e2 g).2 = e3 at *
    have hw := twoFm_c 3 x y (by omega) (by omega)
    refine AC.mk Tryz.func41 rfl rfl rfl rfl rfl (Nat.le_of_ble_eq_true rfl) ?_
    repeat' (first | ((with_reducible refine D.nil ?_); refine AX.nilL ?_) | ((with_reducible refine D.move ?_); refine L.mv rfl rfl rfl ?_) | ((with_reducible refine D.assign ?_); refine L.asg rfl rfl rfl ?_) | ((with_reducible refine D.bin ?_); first | refine L.sb rfl rfl rfl rfl (by omega) ?_ | refine L.bn rfl rfl rfl rfl rfl ?_) | ((with_reducible refine D.call ?_); first | (apply L.cb2 (h9) [0] 0 rfl; rfl; rfl; rfl; rfl; rfl; rfl; (focus ((repeat' (first | exact trivial | refine And.intro ?_ ?_ | refine ⟨_, rfl, _, rfl, _, rfl, ?_⟩ | exact VLe.refl _)); done)); rfl; rfl; rfl; rfl) | (apply L.cb2 (a1) [0] 0 rfl; rfl; rfl; rfl; rfl; rfl; rfl; (focus ((repeat' (first | exact trivial | refine And.intro ?_ ?_ | refine ⟨_, rfl, _, rfl, _, rfl, ?_⟩ | exact VLe.refl _)); done)); rfl; rfl; rfl; rfl) | (apply L.cb2 (a2) [0] 0 rfl; rfl; rfl; rfl; rfl; rfl; rfl; (focus ((repeat' (first | exact trivial | refine And.intro ?_ ?_ | refine ⟨_, rfl, _, rfl, _, rfl, ?_⟩ | exact VLe.refl _)); done)); rfl; rfl; rfl; rfl) | refine L.c2 (hw) rfl rfl rfl rfl ?_) | ((with_reducible refine D.alloc ?_); refine L.al rfl rfl rfl ?_) | ((with_reducible refine D.store ?_); refine L.st rfl rfl rfl rfl rfl rfl rfl rfl rfl ?_) | ((with_reducible refine D.aw ?_); first | ((with_reducible refine D.blk ?_); refine AW.block ?_) | refine K.sq (AW.regL ?_) | refine K.sq (K.sq ?_) | refine AW.regL ?_ | refine AW.condT rfl ?_ | refine AW.condF rfl ?_ | refine AW.condS rfl (fun h => ?_) (fun h => ?_) | refine AW.skip ?_ | refine AW.ret ?_) | with_reducible refine K.tN ?_ | with_reducible refine K.tR ?_ | with_reducible refine K.bR ?_)
    all_goals first
      | (exfalso; simp at h; omega)
      | skip
    (exact K.n2 [some 0] rfl rfl rfl rfl rfl (by (repeat' (first | exact trivial | refine And.intro ?_ ?_ | refine ⟨_, rfl, _, rfl, _, rfl, ?_⟩ | exact VLe.refl _)); done) rfl (by simp [tupV, V.wk, V.wks, constV, Ty.view, Tm.view, twoF, Fm.view]))
  · simp only [show ((3 : Int) = 0) = False by simp, show ((3 : Int) = 1) = False by simp, show ((3 : Int) = 2) = False by simp, show ((3 : Int) = 4) = False by simp, show ((3 : Int) = 5) = False by simp, show ((3 : Int) = 6) = False by simp, if_false, if_true, or_self, or_true, true_or, or_false, false_or] at efm
    rw [efm]
    have ts := type1_c e1 d9
    have ss := Dk.type1 e1
    have k1 := Dk.type_ok 1 e1 d9
    generalize (e1.type 1).1 = s at *
    generalize (e1.type 1).2 = e2 at *
    have gs := smalls_app hg (smalls_cons ss smalls_nil)
    have hlg := longer_c g [s] (by simp; omega)
    have a1 := ih e2 (g ++ [s]) (k - 1) (by omega) (by omega) k1 gs (by simp; omega)
    have f1 := bd n e2 (g ++ [s]) (by omega) gs
    generalize (Dk.fm n e2 (g ++ [s])).1 = x at *
    generalize (Dk.fm n e2 (g ++ [s])).2 = e3 at *
    have hw := qFm_c 4 s x (by have := ss.2; omega) (by omega)
    refine AC.mk Tryz.func41 rfl rfl rfl rfl rfl (Nat.le_of_ble_eq_true rfl) ?_
    repeat' (first | ((with_reducible refine D.nil ?_); first | refine AX.nilL ?_ | refine AX.nilD (by kernel_rfl) ?_) | ((with_reducible refine D.load ?_); refine L.ldb rfl rfl rfl rfl rfl rfl ?_) | ((with_reducible refine D.move ?_); refine L.mv rfl rfl rfl ?_) | ((with_reducible refine D.assign ?_); refine L.asg rfl rfl rfl ?_) | ((with_reducible refine D.bin ?_); first | refine L.sb rfl rfl rfl rfl (by omega) ?_ | refine L.bn rfl rfl rfl rfl rfl ?_) | ((with_reducible refine D.call ?_); first | (apply L.cb2 (h9) [0] 0 rfl; rfl; rfl; rfl; rfl; rfl; rfl; (focus ((repeat' (first | exact trivial | refine And.intro ?_ ?_ | refine ⟨_, rfl, _, rfl, _, rfl, ?_⟩ | exact VLe.refl _)); done)); rfl; rfl; rfl; rfl) | (apply L.cb2 (ts) [0] 0 rfl; rfl; rfl; rfl; rfl; rfl; rfl; (focus ((repeat' (first | exact trivial | refine And.intro ?_ ?_ | refine ⟨_, rfl, _, rfl, _, rfl, ?_⟩ | exact VLe.refl _)); done)); rfl; rfl; rfl; rfl) | refine L.c2 (hlg) rfl rfl rfl rfl ?_ | (apply L.cb2 (a1) [0] 0 rfl; rfl; rfl; rfl; rfl; rfl; rfl; (focus ((repeat' (first | exact trivial | refine And.intro ?_ ?_ | refine ⟨_, rfl, _, rfl, _, rfl, ?_⟩ | exact VLe.refl _)); done)); rfl; rfl; rfl; rfl) | refine L.c2 (hw) rfl rfl rfl rfl ?_) | ((with_reducible refine D.alloc ?_); refine L.al rfl rfl rfl ?_) | ((with_reducible refine D.store ?_); refine L.st rfl rfl rfl rfl rfl rfl rfl rfl rfl ?_) | ((with_reducible refine D.ax ?_); refine L.bs1 rfl rfl rfl rfl rfl (EC.fold_of rfl) rfl rfl ?_) | ((with_reducible refine D.aw ?_); first | ((with_reducible refine D.blk ?_); refine AW.block ?_) | refine K.sq (AW.regL ?_) | refine K.sq (AW.regD mixed (by kernel_rfl) ?_) | refine K.sq (K.sq ?_) | refine AW.regL ?_ | refine AW.condT rfl ?_ | refine AW.condF rfl ?_ | refine AW.condS rfl (fun h => ?_) (fun h => ?_) | refine AW.skip ?_ | refine AW.ret ?_) | with_reducible refine K.tN ?_ | with_reducible refine K.tR ?_ | with_reducible refine K.bR ?_)
    all_goals first
      | (exfalso; simp at h; omega)
      | skip
    (exact K.n2 [some 0] rfl rfl rfl rfl rfl (by (repeat' (first | exact trivial | refine And.intro ?_ ?_ | refine ⟨_, rfl, _, rfl, _, rfl, ?_⟩ | exact VLe.refl _)); done) rfl (by simp [tupV, V.wk, V.wks, constV, Ty.view, Tm.view, quF, Fm.view]))
  · simp only [show ((4 : Int) = 0) = False by simp, show ((4 : Int) = 1) = False by simp, show ((4 : Int) = 2) = False by simp, show ((4 : Int) = 3) = False by simp, show ((4 : Int) = 5) = False by simp, show ((4 : Int) = 6) = False by simp, if_false, if_true, or_self, or_true, true_or, or_false, false_or] at efm
    rw [efm]
    have ts := type1_c e1 d9
    have ss := Dk.type1 e1
    have k1 := Dk.type_ok 1 e1 d9
    generalize (e1.type 1).1 = s at *
    generalize (e1.type 1).2 = e2 at *
    have gs := smalls_app hg (smalls_cons ss smalls_nil)
    have hlg := longer_c g [s] (by simp; omega)
    have a1 := ih e2 (g ++ [s]) (k - 1) (by omega) (by omega) k1 gs (by simp; omega)
    have f1 := bd n e2 (g ++ [s]) (by omega) gs
    generalize (Dk.fm n e2 (g ++ [s])).1 = x at *
    generalize (Dk.fm n e2 (g ++ [s])).2 = e3 at *
    have hw := qFm_c 4 s x (by have := ss.2; omega) (by omega)
    refine AC.mk Tryz.func41 rfl rfl rfl rfl rfl (Nat.le_of_ble_eq_true rfl) ?_
    repeat' (first | ((with_reducible refine D.nil ?_); first | refine AX.nilL ?_ | refine AX.nilD (by kernel_rfl) ?_) | ((with_reducible refine D.load ?_); refine L.ldb rfl rfl rfl rfl rfl rfl ?_) | ((with_reducible refine D.move ?_); refine L.mv rfl rfl rfl ?_) | ((with_reducible refine D.assign ?_); refine L.asg rfl rfl rfl ?_) | ((with_reducible refine D.bin ?_); first | refine L.sb rfl rfl rfl rfl (by omega) ?_ | refine L.bn rfl rfl rfl rfl rfl ?_) | ((with_reducible refine D.call ?_); first | (apply L.cb2 (h9) [0] 0 rfl; rfl; rfl; rfl; rfl; rfl; rfl; (focus ((repeat' (first | exact trivial | refine And.intro ?_ ?_ | refine ⟨_, rfl, _, rfl, _, rfl, ?_⟩ | exact VLe.refl _)); done)); rfl; rfl; rfl; rfl) | (apply L.cb2 (ts) [0] 0 rfl; rfl; rfl; rfl; rfl; rfl; rfl; (focus ((repeat' (first | exact trivial | refine And.intro ?_ ?_ | refine ⟨_, rfl, _, rfl, _, rfl, ?_⟩ | exact VLe.refl _)); done)); rfl; rfl; rfl; rfl) | refine L.c2 (hlg) rfl rfl rfl rfl ?_ | (apply L.cb2 (a1) [0] 0 rfl; rfl; rfl; rfl; rfl; rfl; rfl; (focus ((repeat' (first | exact trivial | refine And.intro ?_ ?_ | refine ⟨_, rfl, _, rfl, _, rfl, ?_⟩ | exact VLe.refl _)); done)); rfl; rfl; rfl; rfl) | refine L.c2 (hw) rfl rfl rfl rfl ?_) | ((with_reducible refine D.alloc ?_); refine L.al rfl rfl rfl ?_) | ((with_reducible refine D.store ?_); refine L.st rfl rfl rfl rfl rfl rfl rfl rfl rfl ?_) | ((with_reducible refine D.ax ?_); refine L.bs1 rfl rfl rfl rfl rfl (EC.fold_of rfl) rfl rfl ?_) | ((with_reducible refine D.aw ?_); first | ((with_reducible refine D.blk ?_); refine AW.block ?_) | refine K.sq (AW.regL ?_) | refine K.sq (AW.regD mixed (by kernel_rfl) ?_) | refine K.sq (K.sq ?_) | refine AW.regL ?_ | refine AW.condT rfl ?_ | refine AW.condF rfl ?_ | refine AW.condS rfl (fun h => ?_) (fun h => ?_) | refine AW.skip ?_ | refine AW.ret ?_) | with_reducible refine K.tN ?_ | with_reducible refine K.tR ?_ | with_reducible refine K.bR ?_)
    all_goals first
      | (exfalso; simp at h; omega)
      | skip
    (exact K.n2 [some 0] rfl rfl rfl rfl rfl (by (repeat' (first | exact trivial | refine And.intro ?_ ?_ | refine ⟨_, rfl, _, rfl, _, rfl, ?_⟩ | exact VLe.refl _)); done) rfl (by simp [tupV, V.wk, V.wks, constV, Ty.view, Tm.view, quF, Fm.view]))
  · simp only [show ((5 : Int) = 0) = False by simp, show ((5 : Int) = 1) = False by simp, show ((5 : Int) = 2) = False by simp, show ((5 : Int) = 3) = False by simp, show ((5 : Int) = 4) = False by simp, show ((5 : Int) = 6) = False by simp, if_false, if_true, or_self, or_true, true_or, or_false, false_or] at efm
    rw [efm]
    have ts := type1_c e1 d9
    have ss := Dk.type1 e1
    have k1 := Dk.type_ok 1 e1 d9
    generalize (e1.type 1).1 = s at *
    generalize (e1.type 1).2 = e2 at *
    have gs := smalls_app hg (smalls_cons ss smalls_nil)
    have hlg := longer_c g [s] (by simp; omega)
    have a1 := ih e2 (g ++ [s]) (k - 1) (by omega) (by omega) k1 gs (by simp; omega)
    have f1 := bd n e2 (g ++ [s]) (by omega) gs
    generalize (Dk.fm n e2 (g ++ [s])).1 = x at *
    generalize (Dk.fm n e2 (g ++ [s])).2 = e3 at *
    have hw := qFm_c 5 s x (by have := ss.2; omega) (by omega)
    refine AC.mk Tryz.func41 rfl rfl rfl rfl rfl (Nat.le_of_ble_eq_true rfl) ?_
    repeat' (first | ((with_reducible refine D.nil ?_); first | refine AX.nilL ?_ | refine AX.nilD (by kernel_rfl) ?_) | ((with_reducible refine D.load ?_); refine L.ldb rfl rfl rfl rfl rfl rfl ?_) | ((with_reducible refine D.move ?_); refine L.mv rfl rfl rfl ?_) | ((with_reducible refine D.assign ?_); refine L.asg rfl rfl rfl ?_) | ((with_reducible refine D.bin ?_); first | refine L.sb rfl rfl rfl rfl (by omega) ?_ | refine L.bn rfl rfl rfl rfl rfl ?_) | ((with_reducible refine D.call ?_); first | (apply L.cb2 (h9) [0] 0 rfl; rfl; rfl; rfl; rfl; rfl; rfl; (focus ((repeat' (first | exact trivial | refine And.intro ?_ ?_ | refine ⟨_, rfl, _, rfl, _, rfl, ?_⟩ | exact VLe.refl _)); done)); rfl; rfl; rfl; rfl) | (apply L.cb2 (ts) [0] 0 rfl; rfl; rfl; rfl; rfl; rfl; rfl; (focus ((repeat' (first | exact trivial | refine And.intro ?_ ?_ | refine ⟨_, rfl, _, rfl, _, rfl, ?_⟩ | exact VLe.refl _)); done)); rfl; rfl; rfl; rfl) | refine L.c2 (hlg) rfl rfl rfl rfl ?_ | (apply L.cb2 (a1) [0] 0 rfl; rfl; rfl; rfl; rfl; rfl; rfl; (focus ((repeat' (first | exact trivial | refine And.intro ?_ ?_ | refine ⟨_, rfl, _, rfl, _, rfl, ?_⟩ | exact VLe.refl _)); done)); rfl; rfl; rfl; rfl) | refine L.c2 (hw) rfl rfl rfl rfl ?_) | ((with_reducible refine D.alloc ?_); refine L.al rfl rfl rfl ?_) | ((with_reducible refine D.store ?_); refine L.st rfl rfl rfl rfl rfl rfl rfl rfl rfl ?_) | ((with_reducible refine D.ax ?_); refine L.bs1 rfl rfl rfl rfl rfl (EC.fold_of rfl) rfl rfl ?_) | ((with_reducible refine D.aw ?_); first | ((with_reducible refine D.blk ?_); refine AW.block ?_) | refine K.sq (AW.regL ?_) | refine K.sq (AW.regD mixed (by kernel_rfl) ?_) | refine K.sq (K.sq ?_) | refine AW.regL ?_ | refine AW.condT rfl ?_ | refine AW.condF rfl ?_ | refine AW.condS rfl (fun h => ?_) (fun h => ?_) | refine AW.skip ?_ | refine AW.ret ?_) | with_reducible refine K.tN ?_ | with_reducible refine K.tR ?_ | with_reducible refine K.bR ?_)
    all_goals first
      | (exfalso; simp at h; omega)
      | skip
    (exact K.n2 [some 0] rfl rfl rfl rfl rfl (by (repeat' (first | exact trivial | refine And.intro ?_ ?_ | refine ⟨_, rfl, _, rfl, _, rfl, ?_⟩ | exact VLe.refl _)); done) rfl (by simp [tupV, V.wk, V.wks, constV, Ty.view, Tm.view, quF, Fm.view]))
  · simp only [show ((6 : Int) = 0) = False by simp, show ((6 : Int) = 1) = False by simp, show ((6 : Int) = 2) = False by simp, show ((6 : Int) = 3) = False by simp, show ((6 : Int) = 4) = False by simp, show ((6 : Int) = 5) = False by simp, if_false, if_true, or_self, or_true, true_or, or_false, false_or] at efm
    rw [efm]
    have ts := type0_c e1 d9
    have ss0 := Dk.type0 e1
    have ss := small_one ss0.1 ss0.2
    have k1 := Dk.type_ok 0 e1 d9
    generalize (e1.type 0).1 = s at *
    generalize (e1.type 0).2 = e2 at *
    have h2 := next_c e2 2 k1 (by omega)
    have hb2 := Dk.next_bd e2 2 (by omega)
    have k2 := Dk.next_ok k1 2
    generalize (e2.next 2).1 = u at *
    generalize (e2.next 2).2 = e3 at *
    have gs := smalls_app hg (smalls_cons ss smalls_nil)
    have hlg := longer_c g [s] (by simp; omega)
    have a1 := ih e3 (g ++ [s]) (k - 1) (by omega) (by omega) k2 gs (by simp; omega)
    have f1 := bd n e3 (g ++ [s]) (by omega) gs
    generalize (Dk.fm n e3 (g ++ [s])).1 = x at *
    generalize (Dk.fm n e3 (g ++ [s])).2 = e4 at *
    have hw := qFm_c (6 + u) s x (by have := ss.2; omega) (by omega)
    refine AC.mk Tryz.func41 rfl rfl rfl rfl rfl (Nat.le_of_ble_eq_true rfl) ?_
    repeat' (first | ((with_reducible refine D.nil ?_); first | refine AX.nilL ?_ | refine AX.nilD (by kernel_rfl) ?_) | ((with_reducible refine D.load ?_); refine L.ldb rfl rfl rfl rfl rfl rfl ?_) | ((with_reducible refine D.move ?_); refine L.mv rfl rfl rfl ?_) | ((with_reducible refine D.assign ?_); refine L.asg rfl rfl rfl ?_) | ((with_reducible refine D.bin ?_); first | refine L.ad rfl rfl rfl rfl (by omega) ?_ | refine L.sb rfl rfl rfl rfl (by omega) ?_ | refine L.bn rfl rfl rfl rfl rfl ?_) | ((with_reducible refine D.call ?_); first | (apply L.cb2 (h9) [0] 0 rfl; rfl; rfl; rfl; rfl; rfl; rfl; (focus ((repeat' (first | exact trivial | refine And.intro ?_ ?_ | refine ⟨_, rfl, _, rfl, _, rfl, ?_⟩ | exact VLe.refl _)); done)); rfl; rfl; rfl; rfl) | (apply L.cb2 (ts) [0] 0 rfl; rfl; rfl; rfl; rfl; rfl; rfl; (focus ((repeat' (first | exact trivial | refine And.intro ?_ ?_ | refine ⟨_, rfl, _, rfl, _, rfl, ?_⟩ | exact VLe.refl _)); done)); rfl; rfl; rfl; rfl) | (apply L.cb2 (h2) [0] 0 rfl; rfl; rfl; rfl; rfl; rfl; rfl; (focus ((repeat' (first | exact trivial | refine And.intro ?_ ?_ | refine ⟨_, rfl, _, rfl, _, rfl, ?_⟩ | exact VLe.refl _)); done)); rfl; rfl; rfl; rfl) | refine L.c2 (hlg) rfl rfl rfl rfl ?_ | (apply L.cb2 (a1) [0] 0 rfl; rfl; rfl; rfl; rfl; rfl; rfl; (focus ((repeat' (first | exact trivial | refine And.intro ?_ ?_ | refine ⟨_, rfl, _, rfl, _, rfl, ?_⟩ | exact VLe.refl _)); done)); rfl; rfl; rfl; rfl) | refine L.c2 (hw) rfl rfl rfl rfl ?_) | ((with_reducible refine D.alloc ?_); refine L.al rfl rfl rfl ?_) | ((with_reducible refine D.store ?_); refine L.st rfl rfl rfl rfl rfl rfl rfl rfl rfl ?_) | ((with_reducible refine D.ax ?_); refine L.bs1 rfl rfl rfl rfl rfl (EC.fold_of rfl) rfl rfl ?_) | ((with_reducible refine D.aw ?_); first | ((with_reducible refine D.blk ?_); refine AW.block ?_) | refine K.sq (AW.regL ?_) | refine K.sq (AW.regD mixed (by kernel_rfl) ?_) | refine K.sq (K.sq ?_) | refine AW.regL ?_ | refine AW.condT rfl ?_ | refine AW.condF rfl ?_ | refine AW.condS rfl (fun h => ?_) (fun h => ?_) | refine AW.skip ?_ | refine AW.ret ?_) | with_reducible refine K.tN ?_ | with_reducible refine K.tR ?_ | with_reducible refine K.bR ?_)
    all_goals first
      | (exfalso; simp at h; omega)
      | skip
    (exact K.n2 [some 0] rfl rfl rfl rfl rfl (by (repeat' (first | exact trivial | refine And.intro ?_ ?_ | refine ⟨_, rfl, _, rfl, _, rfl, ?_⟩ | exact VLe.refl _)); done) rfl (by simp [tupV, V.wk, V.wks, constV, Ty.view, Tm.view, quF, Fm.view]))
  · simp only [show ((7 : Int) = 0) = False by simp, show ((7 : Int) = 1) = False by simp, show ((7 : Int) = 2) = False by simp, show ((7 : Int) = 3) = False by simp, show ((7 : Int) = 4) = False by simp, show ((7 : Int) = 5) = False by simp, show ((7 : Int) = 6) = False by simp, if_false, if_true, or_self, or_true, true_or, or_false, false_or] at efm
    rw [efm]
    obtain ⟨x, d1, y, d2, e, fx, fy, h1, h2⟩ := eqc e1 g d9 hg (by omega)
    rw [e]
    have he := eqFm_c x y (by omega) (by omega)
    refine AC.mk Tryz.func41 rfl rfl rfl rfl rfl (Nat.le_of_ble_eq_true rfl) ?_
    repeat' (first | ((with_reducible refine D.nil ?_); first | refine AX.nilL ?_ | refine AX.nilD (by kernel_rfl) ?_) | ((with_reducible refine D.load ?_); refine L.ldb rfl rfl rfl rfl rfl rfl ?_) | ((with_reducible refine D.move ?_); refine L.mv rfl rfl rfl ?_) | ((with_reducible refine D.assign ?_); refine L.asg rfl rfl rfl ?_) | ((with_reducible refine D.bin ?_); refine L.bn rfl rfl rfl rfl rfl ?_) | ((with_reducible refine D.call ?_); first | (apply L.cb2 (h9) [0] 0 rfl; rfl; rfl; rfl; rfl; rfl; rfl; (focus ((repeat' (first | exact trivial | refine And.intro ?_ ?_ | refine ⟨_, rfl, _, rfl, _, rfl, ?_⟩ | exact VLe.refl _)); done)); rfl; rfl; rfl; rfl) | refine L.c2 (nat_c) rfl rfl rfl rfl ?_ | (apply L.cb2 (h1) [0] 0 rfl; rfl; rfl; rfl; rfl; rfl; rfl; (focus ((repeat' (first | exact trivial | refine And.intro ?_ ?_ | refine ⟨_, rfl, _, rfl, _, rfl, ?_⟩ | exact VLe.refl _)); done)); rfl; rfl; rfl; rfl) | (apply L.cb2 (h2) [0] 0 rfl; rfl; rfl; rfl; rfl; rfl; rfl; (focus ((repeat' (first | exact trivial | refine And.intro ?_ ?_ | refine ⟨_, rfl, _, rfl, _, rfl, ?_⟩ | exact VLe.refl _)); done)); rfl; rfl; rfl; rfl) | refine L.c2 (he) rfl rfl rfl rfl ?_) | ((with_reducible refine D.alloc ?_); refine L.al rfl rfl rfl ?_) | ((with_reducible refine D.store ?_); refine L.st rfl rfl rfl rfl rfl rfl rfl rfl rfl ?_) | ((with_reducible refine D.aw ?_); first | ((with_reducible refine D.blk ?_); refine AW.block ?_) | refine K.sq (AW.regL ?_) | refine K.sq (AW.regD mixed (by kernel_rfl) ?_) | refine K.sq (K.sq ?_) | refine AW.regL ?_ | refine AW.condF rfl ?_ | refine AW.condS rfl (fun h => ?_) (fun h => ?_) | refine AW.skip ?_ | refine AW.ret ?_) | with_reducible refine K.tN ?_ | with_reducible refine K.bN ?_)
    all_goals first
      | (exfalso; simp at h; omega)
      | skip
    (exact K.n2 [some 0] rfl rfl rfl rfl rfl (by (repeat' (first | exact trivial | refine And.intro ?_ ?_ | refine ⟨_, rfl, _, rfl, _, rfl, ?_⟩ | exact VLe.refl _)); done) rfl (by simp [tupV, V.wk, V.wks, constV, Ty.view, Tm.view, eqF, Fm.view]))
  · simp only [show ((8 : Int) = 0) = False by simp, show ((8 : Int) = 1) = False by simp, show ((8 : Int) = 2) = False by simp, show ((8 : Int) = 3) = False by simp, show ((8 : Int) = 4) = False by simp, show ((8 : Int) = 5) = False by simp, show ((8 : Int) = 6) = False by simp, if_false, if_true, or_self, or_true, true_or, or_false, false_or] at efm
    rw [efm]
    obtain ⟨x, d1, y, d2, e, fx, fy, h1, h2⟩ := eqc e1 g d9 hg (by omega)
    rw [e]
    have he := eqFm_c x y (by omega) (by omega)
    refine AC.mk Tryz.func41 rfl rfl rfl rfl rfl (Nat.le_of_ble_eq_true rfl) ?_
    repeat' (first | ((with_reducible refine D.nil ?_); first | refine AX.nilL ?_ | refine AX.nilD (by kernel_rfl) ?_) | ((with_reducible refine D.load ?_); refine L.ldb rfl rfl rfl rfl rfl rfl ?_) | ((with_reducible refine D.move ?_); refine L.mv rfl rfl rfl ?_) | ((with_reducible refine D.assign ?_); refine L.asg rfl rfl rfl ?_) | ((with_reducible refine D.bin ?_); refine L.bn rfl rfl rfl rfl rfl ?_) | ((with_reducible refine D.call ?_); first | (apply L.cb2 (h9) [0] 0 rfl; rfl; rfl; rfl; rfl; rfl; rfl; (focus ((repeat' (first | exact trivial | refine And.intro ?_ ?_ | refine ⟨_, rfl, _, rfl, _, rfl, ?_⟩ | exact VLe.refl _)); done)); rfl; rfl; rfl; rfl) | refine L.c2 (nat_c) rfl rfl rfl rfl ?_ | (apply L.cb2 (h1) [0] 0 rfl; rfl; rfl; rfl; rfl; rfl; rfl; (focus ((repeat' (first | exact trivial | refine And.intro ?_ ?_ | refine ⟨_, rfl, _, rfl, _, rfl, ?_⟩ | exact VLe.refl _)); done)); rfl; rfl; rfl; rfl) | (apply L.cb2 (h2) [0] 0 rfl; rfl; rfl; rfl; rfl; rfl; rfl; (focus ((repeat' (first | exact trivial | refine And.intro ?_ ?_ | refine ⟨_, rfl, _, rfl, _, rfl, ?_⟩ | exact VLe.refl _)); done)); rfl; rfl; rfl; rfl) | refine L.c2 (he) rfl rfl rfl rfl ?_) | ((with_reducible refine D.alloc ?_); refine L.al rfl rfl rfl ?_) | ((with_reducible refine D.store ?_); refine L.st rfl rfl rfl rfl rfl rfl rfl rfl rfl ?_) | ((with_reducible refine D.aw ?_); first | ((with_reducible refine D.blk ?_); refine AW.block ?_) | refine K.sq (AW.regL ?_) | refine K.sq (AW.regD mixed (by kernel_rfl) ?_) | refine K.sq (K.sq ?_) | refine AW.regL ?_ | refine AW.condF rfl ?_ | refine AW.condS rfl (fun h => ?_) (fun h => ?_) | refine AW.skip ?_ | refine AW.ret ?_) | with_reducible refine K.tN ?_ | with_reducible refine K.bN ?_)
    all_goals first
      | (exfalso; simp at h; omega)
      | skip
    (exact K.n2 [some 0] rfl rfl rfl rfl rfl (by (repeat' (first | exact trivial | refine And.intro ?_ ?_ | refine ⟨_, rfl, _, rfl, _, rfl, ?_⟩ | exact VLe.refl _)); done) rfl (by simp [tupV, V.wk, V.wks, constV, Ty.view, Tm.view, eqF, Fm.view]))
end Go.Ab
namespace Go.Ab
open Go Go.Proofs
set_option maxRecDepth 100000
set_option maxHeartbeats 4000000
set_option linter.all false
theorem sameAllTm_r (l : List Tm) (h : (l.map Tm.full).sum < 1099511627776) : PC E 13 [.s .tm l, .s .tm l] (.bool true) := by
  have hlen := lsum_len Tm.full Tm.full_pos l
  refine AC.mk Tryz.func13 rfl rfl rfl rfl rfl (Nat.le_of_ble_eq_true rfl) ?_
  repeat' (first | ((with_reducible refine D.nil ?_); refine AX.nilL ?_) | ((with_reducible refine D.move ?_); refine L.mv rfl rfl rfl ?_) | ((with_reducible refine D.assign ?_); refine L.asg rfl rfl rfl ?_) | ((with_reducible refine D.bin ?_); refine L.bn rfl rfl rfl rfl rfl ?_) | ((with_reducible refine D.call ?_); refine L.lnt rfl rfl rfl rfl ?_) | ((with_reducible refine D.aw ?_); first | refine K.sq (AW.regL ?_) | refine K.sq (K.sq ?_) | refine AW.regL ?_ | refine AW.condS rfl (fun h => ?_) (fun h => ?_) | refine AW.skip ?_ | refine AW.ret ?_) | with_reducible refine K.tN ?_ | with_reducible refine K.tR ?_ | with_reducible refine K.r1 (by with_unfolding_all rfl) (by with_unfolding_all rfl) ?_)
  · exfalso; simp at h
  refine AW.range l.length (fun m => True) (fun m => ([(0, .s .tm l), (1, .s .tm l), (11, .s .tm l), (12, .i l.length), (13, .i m)], ⟨0, []⟩))
    (by omega) (fun m => rfl) (fun m => rfl) rfl trivial (Weak.mk [] _ _ _ rfl rfl rfl rfl (by (repeat' (first | exact trivial | refine And.intro ?_ ?_ | refine ⟨_, rfl, _, rfl, ?_⟩ | exact VLe.refl _)); done) (by (repeat' (first | exact trivial)); done)) ?_ ?_
  · intro m hm _
    have hs2 := lsum_mem Tm.full (List.getElem_mem hm)
    have hc := sameTm_r l[m] (by omega)
    repeat' (first | ((with_reducible refine D.nil ?_); first | refine AX.nilL ?_ | refine AX.nilD (by kernel_rfl) ?_) | ((with_reducible refine D.load ?_); refine L.lda rfl rfl rfl rfl rfl ?_) | ((with_reducible refine D.move ?_); refine L.mv rfl rfl rfl ?_) | ((with_reducible refine D.assign ?_); refine L.asg rfl rfl rfl ?_) | ((with_reducible refine D.call ?_); refine L.c2 (hc) rfl rfl rfl rfl ?_) | ((with_reducible refine D.indexAddr ?_); refine L.ixt _ rfl rfl rfl rfl rfl rfl rfl (by assumption) ?_) | ((with_reducible refine D.not ?_); refine L.nt rfl rfl rfl ?_) | ((with_reducible refine D.aw ?_); first | refine K.sq (AW.regL ?_) | refine K.sq (AW.regD mixed (by kernel_rfl) ?_) | refine AW.condF rfl ?_ | refine AW.skip ?_) | with_reducible refine K.tN ?_ | with_reducible refine K.bN ?_)
    exact ⟨rfl, trivial, (Weak.mk [] _ _ _ rfl rfl rfl rfl (by (repeat' (first | exact trivial | refine And.intro ?_ ?_ | refine ⟨_, rfl, _, rfl, ?_⟩ | exact VLe.refl _)); done) (by (repeat' (first | exact trivial)); done))⟩
  · intro _
    repeat' (first | ((with_reducible refine D.nil ?_); refine AX.nilL ?_) | ((with_reducible refine D.assign ?_); refine L.asg rfl rfl rfl ?_) | ((with_reducible refine D.aw ?_); first | refine K.sq (AW.regL ?_) | refine AW.ret ?_) | with_reducible refine K.tN ?_ | with_reducible refine K.r1 (by with_unfolding_all rfl) (by with_unfolding_all rfl) ?_)
    rfl
theorem sameFm_r : ∀ (n : Nat) (f : Fm), f.full ≤ n → n < 1099511627776 → PC E 14 [.agg f.view, .agg f.view] (.bool true) := by
  intro n
  induction n with
  | zero => intro f h; have := f.full_pos; omega
  | succ n ih =>
  intro f hsz hn
  have hsz' := f.full_eq
  have hlen := lsum_len Fm.full Fm.full_pos f.args
  have h1 := sameTy_r f.ty (by omega)
  have h2 := sameAllTm_r f.terms (by omega)
  refine AC.mk Tryz.func14 rfl rfl rfl rfl rfl (Nat.le_of_ble_eq_true rfl) ?_
  repeat' (first | ((with_reducible refine D.nil ?_); refine AX.nilL ?_) | ((with_reducible refine D.load ?_); first | refine L.ldb rfl rfl rfl rfl rfl rfl ?_ | refine AX.sk rfl rfl ?_) | ((with_reducible refine D.move ?_); refine L.mv rfl rfl rfl ?_) | ((with_reducible refine D.fieldAddr ?_); first | refine L.fab rfl rfl rfl rfl rfl ?_ | refine AX.sk rfl rfl ?_ | ((fail_if_success refine AX.wt rfl ?_); refine AX.gs rfl rfl (fun _ => trivial) (fun h => ?_) (fun h => ?_))) | ((with_reducible refine D.assign ?_); refine L.asg rfl rfl rfl ?_) | ((with_reducible refine D.bin ?_); first | refine L.bn rfl rfl rfl rfl rfl ?_ | refine AX.sk rfl rfl ?_) | ((with_reducible refine D.call ?_); first | refine L.lnt rfl rfl rfl rfl ?_ | refine L.c2 (h1) rfl rfl rfl rfl ?_ | refine L.c2 (h2) rfl rfl rfl rfl ?_ | refine AX.sk rfl rfl ?_) | ((with_reducible refine D.box ?_); refine L.bx rfl rfl rfl rfl ?_) | ((with_reducible refine D.not ?_); first | refine L.nt rfl rfl rfl ?_ | refine AX.sk rfl rfl ?_) | ((with_reducible refine D.pick ?_); refine L.pk rfl rfl rfl rfl ?_) | ((with_reducible refine D.aw ?_); first | refine K.sq (AW.regL ?_) | refine K.sq (K.sq ?_) | refine AW.regL ?_ | refine AW.condT rfl ?_ | refine AW.condS rfl (fun h => ?_) (fun h => ?_) | refine AW.skip ?_ | refine AW.ret ?_) | with_reducible refine K.tN ?_ | with_reducible refine K.tR ?_ | with_reducible refine K.r1 (by with_unfolding_all rfl) (by with_unfolding_all rfl) ?_)
  all_goals first
    | (exfalso; simp at h; done)
    | skip
  refine AW.range f.args.length (fun m => True) (fun m => ([(2, .ptr 0 0), (3, .ptr 1 0), (37, .s .fm f.args), (38, .i f.args.length), (39, .i m)], ⟨2, [(0, .var f.view), (1, .var f.view)]⟩))
    (by omega) (fun m => rfl) (fun m => rfl) rfl trivial (Weak.mk [some 0, some 1] _ _ _ rfl rfl rfl rfl (by (repeat' (first | exact trivial | refine And.intro ?_ ?_ | refine ⟨_, rfl, _, rfl, ?_⟩ | exact VLe.refl _)); done) (by (repeat' (first | exact trivial | refine And.intro ?_ ?_ | refine ⟨_, rfl, _, rfl, _, rfl, ?_⟩ | exact VLe.refl _)); done)) ?_ ?_
  · intro m hm _
    have hs2 := lsum_mem Fm.full (List.getElem_mem hm)
    have hc := ih f.args[m] (by omega) (by omega)
    repeat' (first | ((with_reducible refine D.nil ?_); first | refine AX.nilL ?_ | refine AX.nilD (by kernel_rfl) ?_) | ((with_reducible refine D.load ?_); first | refine L.ldb rfl rfl rfl rfl rfl rfl ?_ | refine L.lda rfl rfl rfl rfl rfl ?_) | ((with_reducible refine D.move ?_); refine L.mv rfl rfl rfl ?_) | ((with_reducible refine D.fieldAddr ?_); refine L.fab rfl rfl rfl rfl rfl ?_) | ((with_reducible refine D.assign ?_); refine L.asg rfl rfl rfl ?_) | ((with_reducible refine D.call ?_); refine L.c2 (hc) rfl rfl rfl rfl ?_) | ((with_reducible refine D.indexAddr ?_); refine L.ixt _ rfl rfl rfl rfl rfl rfl rfl (by assumption) ?_) | ((with_reducible refine D.not ?_); refine L.nt rfl rfl rfl ?_) | ((with_reducible refine D.aw ?_); first | refine K.sq (AW.regL ?_) | refine K.sq (AW.regD mixed (by kernel_rfl) ?_) | refine AW.condF rfl ?_ | refine AW.skip ?_) | with_reducible refine K.tN ?_ | with_reducible refine K.bN ?_)
    exact ⟨rfl, trivial, (Weak.mk [some 0, some 1] _ _ _ rfl rfl rfl rfl (by (repeat' (first | exact trivial | refine And.intro ?_ ?_ | refine ⟨_, rfl, _, rfl, ?_⟩ | exact VLe.refl _)); done) (by (repeat' (first | exact trivial | refine And.intro ?_ ?_ | refine ⟨_, rfl, _, rfl, _, rfl, ?_⟩ | exact VLe.refl _)); done))⟩
  · intro _
    repeat' (first | ((with_reducible refine D.nil ?_); refine AX.nilL ?_) | ((with_reducible refine D.assign ?_); refine L.asg rfl rfl rfl ?_) | ((with_reducible refine D.aw ?_); first | refine K.sq (AW.regL ?_) | refine AW.ret ?_) | with_reducible refine K.tN ?_ | with_reducible refine K.r1 (by with_unfolding_all rfl) (by with_unfolding_all rfl) ?_)
    rfl
end Go.Ab
namespace Go.Ab
open Go Go.Proofs
set_option maxRecDepth 100000
set_option maxHeartbeats 4000000
set_option linter.all false
def nearG (b : Bool) (l : List (Int × Int)) : Bool := b && l.all fun p => decide (p.1 ≤ 268435456)
theorem nearG_append (b : Bool) (l l' : List (Int × Int)) : nearG (nearG b l) l' = nearG b (l ++ l') := by simp [nearG, Bool.and_assoc]
theorem nearG_nil (b : Bool) : nearG b [] = b := by simp [nearG]
theorem nearECb (b : Bool) (i bl : Int) : AC E 103 [.i i, .i bl, .ptr 0 0] ⟨1, [(0, .var [.bool b])]⟩ (.tup []) ⟨1, [(0, .var [.bool (nearG b [(i, bl)])])]⟩ := by
  refine AC.mk Tryz.func103 rfl rfl rfl rfl rfl (Nat.le_of_ble_eq_true rfl) ?_
  repeat' (first | ((with_reducible refine D.nil ?_); refine AX.nilL ?_) | ((with_reducible refine D.load ?_); refine L.ldb rfl rfl rfl rfl rfl rfl ?_) | ((with_reducible refine D.move ?_); first | refine L.mv rfl rfl rfl ?_ | refine AX.sk rfl rfl ?_ | ((fail_if_success refine AX.wt rfl ?_); refine AX.gs rfl rfl (fun _ => trivial) (fun h => ?_) (fun h => ?_))) | ((with_reducible refine D.bin ?_); first | refine L.bn rfl rfl rfl rfl rfl ?_ | refine AX.sk rfl rfl ?_) | ((with_reducible refine D.store ?_); refine L.st rfl rfl rfl rfl rfl rfl rfl rfl rfl ?_) | ((with_reducible refine D.pick ?_); refine L.pk rfl rfl rfl rfl ?_) | ((with_reducible refine D.aw ?_); refine AW.regL ?_))
  · (exact K.n2 [some 0] rfl rfl rfl rfl rfl (by (repeat' (first | exact trivial | refine And.intro ?_ ?_ | refine ⟨_, rfl, _, rfl, _, rfl, ?_⟩ | exact VLe.of_eq (by simp [Sto.upd, nearG, h]))); done) rfl (by simp [tupV, V.wk, V.wks, constV, Ty.view, Tm.view, nearG, h]))
  · (exact K.n2 [some 0] rfl rfl rfl rfl rfl (by (repeat' (first | exact trivial | refine And.intro ?_ ?_ | refine ⟨_, rfl, _, rfl, _, rfl, ?_⟩ | exact VLe.of_eq (by simp [Sto.upd, nearG, h]))); done) rfl (by simp [tupV, V.wk, V.wks, constV, Ty.view, Tm.view, nearG, h]))
theorem nearEEach1 : ∀ (n : Nat) (t : Tm) (b : Bool) (bl : Int), t.full ≤ n → n < 1099511627776 → 0 ≤ bl → bl + n < 1099511627776 → AC E 143 [.agg t.view, .i bl, .ptr 0 0, .ptr 1 0] ⟨3, [(0, .var [.fn (.func 103) [] [.ptr 2 0]]), (1, .var [.fn (.func 143) [] [.ptr 0 0, .ptr 1 0]]), (2, .var [.bool b])]⟩ (.tup [])
    ⟨3, [(0, .var [.fn (.func 103) [] [.ptr 2 0]]), (1, .var [.fn (.func 143) [] [.ptr 0 0, .ptr 1 0]]), (2, .var [.bool (nearG b (t.vars bl))])]⟩ := by
  intro n
  induction n with
  | zero => intro t b bl h; have := t.full_pos; omega
  | succ n ih =>
  intro t b bl hsz hb hbl hbn
  have hsz' := Tm.full_eq t
  have hlen := lsum_len Tm.full Tm.full_pos t.args
  have hv := Tm.vars_eq bl t
  refine AC.mk Tryz.func143 rfl rfl rfl rfl rfl (Nat.le_of_ble_eq_true rfl) ?_
  repeat' (first | ((with_reducible refine D.nil ?_); refine AX.nilL ?_) | ((with_reducible refine D.load ?_); refine L.ldb rfl rfl rfl rfl rfl rfl ?_) | ((with_reducible refine D.move ?_); refine L.mv rfl rfl rfl ?_) | ((with_reducible refine D.fieldAddr ?_); refine L.fab rfl rfl rfl rfl rfl ?_) | ((with_reducible refine D.assign ?_); refine L.asg rfl rfl rfl ?_) | ((with_reducible refine D.bin ?_); first | refine L.ad rfl rfl rfl rfl (by omega) ?_ | refine L.bn rfl rfl rfl rfl rfl ?_) | ((with_reducible refine D.call ?_); first | refine L.lnt rfl rfl rfl rfl ?_ | (apply L.cv2 (nearECb _ _ _) [2] 0 rfl; rfl; rfl; rfl; rfl; rfl; rfl; rfl; (focus ((repeat' (first | exact trivial | refine And.intro ?_ ?_ | refine ⟨_, rfl, _, rfl, _, rfl, ?_⟩ | exact VLe.refl _)); done)); rfl; rfl; rfl; rfl)) | ((with_reducible refine D.box ?_); refine L.bx rfl rfl rfl rfl ?_) | ((with_reducible refine D.aw ?_); first | refine K.sq (AW.regL ?_) | refine K.sq (K.sq ?_) | refine AW.regL ?_ | refine AW.condS rfl (fun h => ?_) (fun h => ?_) | refine AW.skip ?_) | with_reducible refine K.tN ?_)
  all_goals
    have hup : up t.kind bl ≤ bl + 1 := by simp only [up]; split <;> omega
    have hup0 : 0 ≤ up t.kind bl := by simp only [up]; split <;> omega
    refine AW.range t.args.length (fun m => True)
      (fun m => ([(1, .i (up t.kind bl)), (3, .ptr 1 0), (22, .s .tm t.args), (23, .i t.args.length), (24, .i m)], ⟨4, [(0, .var [.fn (.func 103) [] [.ptr 2 0]]), (1, .var [.fn (.func 143) [] [.ptr 0 0, .ptr 1 0]]), (2, .var [.bool (nearG b ((if t.kind = 1 then [(t.index, bl)] else []) ++ (t.args.take m).flatMap (Tm.vars (up t.kind bl))))]), (3, .var t.view)]⟩))
      (by omega) (fun m => rfl) (fun m => rfl) rfl trivial ?_ ?_ ?_
    · simp_all only [beq_iff_eq, beq_eq_false_iff_ne, ne_eq]
      exact (Weak.mk [some 0, some 1, some 2, some 3] _ _ _ rfl rfl rfl rfl (by (repeat' (first | exact trivial | refine And.intro ?_ ?_ | refine ⟨_, rfl, _, rfl, ?_⟩ | exact VLe.refl _ | exact VLe.of_eq (by simp [Sto.upd, up, *, nearG_nil]))); done) (by (repeat' (first | exact trivial | refine And.intro ?_ ?_ | refine ⟨_, rfl, _, rfl, _, rfl, ?_⟩ | exact VLe.refl _ | exact VLe.of_eq (by simp [Sto.upd, up, *, nearG_nil]))); done))
    · intro m hm hP
      have hs2 := lsum_mem Tm.full (List.getElem_mem hm)
      have hc := ih t.args[m] (nearG b ((if t.kind = 1 then [(t.index, bl)] else []) ++ (t.args.take m).flatMap (Tm.vars (up t.kind bl)))) (up t.kind bl) (by omega) (by omega) hup0 (by omega)
      repeat' (first | ((with_reducible refine D.nil ?_); refine AX.nilL ?_) | ((with_reducible refine D.load ?_); first | refine L.ldb rfl rfl rfl rfl rfl rfl ?_ | refine L.lda rfl rfl rfl rfl rfl ?_) | ((with_reducible refine D.move ?_); refine L.mv rfl rfl rfl ?_) | ((with_reducible refine D.call ?_); (apply L.cv2 (hc) [0, 1, 2] 0 rfl; rfl; rfl; rfl; rfl; rfl; rfl; rfl; (focus ((repeat' (first | exact trivial | refine And.intro ?_ ?_ | refine ⟨_, rfl, _, rfl, _, rfl, ?_⟩ | exact VLe.refl _)); done)); rfl; rfl; rfl; rfl)) | ((with_reducible refine D.alloc ?_); refine L.al rfl rfl rfl ?_) | ((with_reducible refine D.store ?_); refine L.st rfl rfl rfl rfl rfl rfl rfl rfl rfl ?_) | ((with_reducible refine D.indexAddr ?_); refine L.ixt _ rfl rfl rfl rfl rfl rfl rfl (by assumption) ?_) | ((with_reducible refine D.aw ?_); first | refine K.sq (AW.regL ?_) | refine AW.regL ?_) | with_reducible refine K.tN ?_ | with_reducible refine K.bN ?_)
      refine ⟨rfl, trivial, ?_⟩
      exact (Weak.mk [some 0, some 1, some 2, some 3] _ _ _ rfl rfl rfl rfl (by (repeat' (first | exact trivial | refine And.intro ?_ ?_ | refine ⟨_, rfl, _, rfl, ?_⟩ | exact VLe.refl _)); done) (by (repeat' (first | exact trivial | refine And.intro ?_ ?_ | refine ⟨_, rfl, _, rfl, _, rfl, ?_⟩ | exact VLe.refl _ | exact VLe.of_eq (by simp [Sto.upd, nearG_append, flat_take _ _ _ hm]))); done))
    · intro hP
      skip
      (exact K.n2 [some 0, some 1, some 2] rfl rfl rfl rfl rfl (by (repeat' (first | exact trivial | refine And.intro ?_ ?_ | refine ⟨_, rfl, _, rfl, _, rfl, ?_⟩ | exact VLe.refl _ | exact VLe.of_eq (by simp [Sto.upd, hv]))); done) rfl (by simp [tupV, V.wk, V.wks, constV, Ty.view, Tm.view, hv]))
theorem nearEEach (t : Tm) (b : Bool) (ht : t.full < 1099511627776) : AC E 102 [.agg t.view, .fn (.func 103) [] [.ptr 0 0]] ⟨1, [(0, .var [.bool b])]⟩ (.tup []) ⟨1, [(0, .var [.bool (nearG b (t.vars 0))])]⟩ := by
  have hc := nearEEach1 _ t b 0 (Nat.le_refl _) (by omega) (by omega) (by omega)
  refine AC.mk Tryz.func102 rfl rfl rfl rfl rfl (Nat.le_of_ble_eq_true rfl) ?_
  repeat' (first | ((with_reducible refine D.nil ?_); refine AX.nilL ?_) | ((with_reducible refine D.load ?_); refine L.ldb rfl rfl rfl rfl rfl rfl ?_) | ((with_reducible refine D.call ?_); (apply L.cv2 (hc) [2, 3, 0] 0 rfl; rfl; rfl; rfl; rfl; rfl; rfl; rfl; (focus ((repeat' (first | exact trivial | refine And.intro ?_ ?_ | refine ⟨_, rfl, _, rfl, _, rfl, ?_⟩ | exact VLe.refl _)); done)); rfl; rfl; rfl; rfl)) | ((with_reducible refine D.box ?_); refine L.bx rfl rfl rfl rfl ?_) | ((with_reducible refine D.alloc ?_); refine L.al rfl rfl rfl ?_) | ((with_reducible refine D.store ?_); refine L.st rfl rfl rfl rfl rfl rfl rfl rfl rfl ?_) | ((with_reducible refine D.ax ?_); refine L.mf rfl rfl rfl rfl ?_) | ((with_reducible refine D.aw ?_); first | refine K.sq (AW.regL ?_) | refine AW.regL ?_) | with_reducible refine K.tN ?_)
  (exact K.n2 [some 0] rfl rfl rfl rfl rfl (by (repeat' (first | exact trivial | refine And.intro ?_ ?_ | refine ⟨_, rfl, _, rfl, _, rfl, ?_⟩ | exact VLe.refl _)); done) rfl (by simp [tupV, V.wk, V.wks, constV, Ty.view, Tm.view, nearG]))
theorem nearEFm (b : Bool) (t : Tm) (bl : Int) (ht : t.full < 1099511627776) : AC E 101 [.agg t.view, .i bl, .ptr 0 0] ⟨1, [(0, .var [.bool b])]⟩ (.tup []) ⟨1, [(0, .var [.bool (allP Tm.nearE b [(t, bl)])])]⟩ := by
  have hc := nearEEach t b ht
  refine AC.mk Tryz.func101 rfl rfl rfl rfl rfl (Nat.le_of_ble_eq_true rfl) ?_
  repeat' (first | ((with_reducible refine D.nil ?_); refine AX.nilL ?_) | ((with_reducible refine D.load ?_); refine L.ldb rfl rfl rfl rfl rfl rfl ?_) | ((with_reducible refine D.call ?_); (apply L.cv2 (hc) [0] 0 rfl; rfl; rfl; rfl; rfl; rfl; rfl; rfl; (focus ((repeat' (first | exact trivial | refine And.intro ?_ ?_ | refine ⟨_, rfl, _, rfl, _, rfl, ?_⟩ | exact VLe.refl _)); done)); rfl; rfl; rfl; rfl)) | ((with_reducible refine D.box ?_); refine L.bx rfl rfl rfl rfl ?_) | ((with_reducible refine D.ax ?_); refine L.mf rfl rfl rfl rfl ?_) | ((with_reducible refine D.aw ?_); first | refine K.sq (AW.regL ?_) | refine AW.regL ?_) | with_reducible refine K.tN ?_)
  (exact K.n2 [some 0] rfl rfl rfl rfl rfl (by (repeat' (first | exact trivial | refine And.intro ?_ ?_ | refine ⟨_, rfl, _, rfl, _, rfl, ?_⟩ | exact VLe.of_eq (by simp [Sto.upd, allP_one, nearG, Tm.nearE]))); done) rfl (by simp [tupV, V.wk, V.wks, constV, Ty.view, Tm.view, allP_one, nearG, Tm.nearE]))
theorem nearFFm (b : Bool) (t : Tm) (bl : Int) (ht : t.full < 1099511627776) : AC E 138 [.agg t.view, .i bl, .ptr 0 0] ⟨1, [(0, .var [.bool b])]⟩ (.tup []) ⟨1, [(0, .var [.bool (allP Tm.near b [(t, bl)])])]⟩ := by
  have hc := near_c t ht
  refine AC.mk Tryz.func138 rfl rfl rfl rfl rfl (Nat.le_of_ble_eq_true rfl) ?_
  repeat' (first | ((with_reducible refine D.nil ?_); refine AX.nilL ?_) | ((with_reducible refine D.load ?_); first | refine L.ldb rfl rfl rfl rfl rfl rfl ?_ | refine AX.sk rfl rfl ?_ | ((fail_if_success refine AX.wt rfl ?_); refine AX.gs rfl rfl (fun _ => trivial) (fun h => ?_) (fun h => ?_))) | ((with_reducible refine D.move ?_); refine L.mv rfl rfl rfl ?_) | ((with_reducible refine D.call ?_); first | refine L.c2 (hc) rfl rfl rfl rfl ?_ | refine AX.sk rfl rfl ?_) | ((with_reducible refine D.box ?_); refine L.bx rfl rfl rfl rfl ?_) | ((with_reducible refine D.store ?_); refine L.st rfl rfl rfl rfl rfl rfl rfl rfl rfl ?_) | ((with_reducible refine D.pick ?_); refine L.pk rfl rfl rfl rfl ?_) | ((with_reducible refine D.aw ?_); first | refine K.sq (AW.regL ?_) | refine AW.regL ?_) | with_reducible refine K.tN ?_)
  · (exact K.n2 [some 0] rfl rfl rfl rfl rfl (by (repeat' (first | exact trivial | refine And.intro ?_ ?_ | refine ⟨_, rfl, _, rfl, _, rfl, ?_⟩ | exact VLe.of_eq (by simp [Sto.upd, allP_one, h]))); done) rfl (by simp [tupV, V.wk, V.wks, constV, Ty.view, Tm.view, allP_one, h]))
  · (exact K.n2 [some 0] rfl rfl rfl rfl rfl (by (repeat' (first | exact trivial | refine And.intro ?_ ?_ | refine ⟨_, rfl, _, rfl, _, rfl, ?_⟩ | exact VLe.of_eq (by simp [Sto.upd, allP_one, h]))); done) rfl (by simp [tupV, V.wk, V.wks, constV, Ty.view, Tm.view, allP_one, h]))
theorem countFFm (at_ c : Int) (t : Tm) (bl : Int) (ht : t.full < 549755813888) (hc0 : 0 ≤ c ∧ c < 549755813888) (ha : 0 ≤ at_ ∧ at_ < 549755813888) (hb : 0 ≤ bl ∧ bl < 549755813888) (hix : ∀ p ∈ t.vars 0, 0 ≤ p.1 ∧ p.1 < 1099511627776) :
    AC E 139 [.agg t.view, .i bl, .ptr 0 0, .ptr 1 0] ⟨2, [(0, .var [.i c]), (1, .var [.i at_])]⟩ (.tup []) ⟨2, [(0, .var [.i (c + cntF at_ [(t, bl)])]), (1, .var [.i at_])]⟩ := by
  have hc := count_c t (at_ + bl) ht hix
  have h1 := cnt_le (at_ + bl) (t.vars 0)
  have h2 := t.vars_len 0
  have h3 := t.size_le_full
  refine AC.mk Tryz.func139 rfl rfl rfl rfl rfl (Nat.le_of_ble_eq_true rfl) ?_
  repeat' (first | ((with_reducible refine D.nil ?_); first | refine AX.nilL ?_ | refine AX.nilD (by kernel_rfl) ?_) | ((with_reducible refine D.load ?_); refine L.ldb rfl rfl rfl rfl rfl rfl ?_) | ((with_reducible refine D.move ?_); refine L.mv rfl rfl rfl ?_) | ((with_reducible refine D.bin ?_); refine L.ad rfl rfl rfl rfl (by omega) ?_) | ((with_reducible refine D.call ?_); refine L.c2 (hc) rfl rfl rfl rfl ?_) | ((with_reducible refine D.box ?_); refine L.bx rfl rfl rfl rfl ?_) | ((with_reducible refine D.store ?_); refine L.st rfl rfl rfl rfl rfl rfl rfl rfl rfl ?_) | ((with_reducible refine D.aw ?_); first | refine K.sq (AW.regL ?_) | refine AW.regD mixed (by kernel_rfl) ?_) | with_reducible refine K.tN ?_)
  (exact K.n2 [some 0, some 1] rfl rfl rfl rfl rfl (by (repeat' (first | exact trivial | refine And.intro ?_ ?_ | refine ⟨_, rfl, _, rfl, _, rfl, ?_⟩ | exact VLe.refl _)); done) rfl (by simp [tupV, V.wk, V.wks, constV, Ty.view, Tm.view, cntF]))
theorem nearEEachF : ∀ (n : Nat) (f : Fm) (b : Bool) (bl : Int), f.full ≤ n → n < 549755813888 → 0 ≤ bl → bl + n < 549755813888 → AC E 100 [.agg f.view, .i bl, .fn (.func 101) [] [.ptr 0 0]] ⟨1, [(0, .var [.bool b])]⟩ (.tup []) ⟨1, [(0, .var [.bool (allP Tm.nearE b (f.tms bl))])]⟩ := by
  intro n
  induction n with
  | zero => intro f; intros; have := f.full_pos; omega
  | succ n ih =>
  intro f b bl hsz hn hbl hbn
  have hsz' := f.full_eq
  have hlen := lsum_len Fm.full Fm.full_pos f.args
  have hlen2 := lsum_len Tm.full Tm.full_pos f.terms
  have htm := f.tms_eq bl
  have hq := quantifier_c f.kind
  refine AC.mk Tryz.func100 rfl rfl rfl rfl rfl (Nat.le_of_ble_eq_true rfl) ?_
  repeat' (first | ((with_reducible refine D.nil ?_); refine AX.nilL ?_) | ((with_reducible refine D.load ?_); refine L.ldb rfl rfl rfl rfl rfl rfl ?_) | ((with_reducible refine D.move ?_); refine L.mv rfl rfl rfl ?_) | ((with_reducible refine D.fieldAddr ?_); refine L.fab rfl rfl rfl rfl rfl ?_) | ((with_reducible refine D.call ?_); refine L.lnt rfl rfl rfl rfl ?_) | ((with_reducible refine D.box ?_); refine L.bx rfl rfl rfl rfl ?_) | ((with_reducible refine D.aw ?_); first | refine K.sq (AW.regL ?_) | refine K.sq (K.sq ?_) | refine AW.regL ?_) | with_reducible refine K.tN ?_)
  refine AW.range f.terms.length (fun m => True)
    (fun m => ([(1, .i bl), (2, .fn (.func 101) [] [.ptr 0 0]), (3, .ptr 1 0), (11, .s .tm f.terms), (12, .i f.terms.length), (13, .i m)], ⟨2, [(0, .var [.bool (allP Tm.nearE b ((f.terms.take m).map (fun t => (t, bl))))]), (1, .var f.view)]⟩))
    (by omega) (fun m => rfl) (fun m => rfl) rfl trivial ?_ ?_ ?_
  · exact (Weak.mk [some 0, some 1] _ _ _ rfl rfl rfl rfl (by (repeat' (first | exact trivial | refine And.intro ?_ ?_ | refine ⟨_, rfl, _, rfl, ?_⟩ | exact VLe.refl _)); done) (by (repeat' (first | exact trivial | refine And.intro ?_ ?_ | refine ⟨_, rfl, _, rfl, _, rfl, ?_⟩ | exact VLe.refl _ | exact VLe.of_eq (by simp [Sto.upd, allP_nil]))); done))
  · intro m hm _
    have hs2 := lsum_mem Tm.full (List.getElem_mem hm)
    have hc := nearEFm (allP Tm.nearE b ((f.terms.take m).map (fun t => (t, bl)))) f.terms[m] bl (by omega)
    repeat' (first | ((with_reducible refine D.nil ?_); refine AX.nilL ?_) | ((with_reducible refine D.load ?_); first | refine L.ldb rfl rfl rfl rfl rfl rfl ?_ | refine L.lda rfl rfl rfl rfl rfl ?_) | ((with_reducible refine D.move ?_); refine L.mv rfl rfl rfl ?_) | ((with_reducible refine D.call ?_); (apply L.cv2 (hc) [0] 0 rfl; rfl; rfl; rfl; rfl; rfl; rfl; rfl; (focus ((repeat' (first | exact trivial | refine And.intro ?_ ?_ | refine ⟨_, rfl, _, rfl, _, rfl, ?_⟩ | exact VLe.refl _)); done)); rfl; rfl; rfl; rfl)) | ((with_reducible refine D.alloc ?_); refine L.al rfl rfl rfl ?_) | ((with_reducible refine D.store ?_); refine L.st rfl rfl rfl rfl rfl rfl rfl rfl rfl ?_) | ((with_reducible refine D.indexAddr ?_); refine L.ixt _ rfl rfl rfl rfl rfl rfl rfl (by assumption) ?_) | ((with_reducible refine D.aw ?_); first | refine K.sq (AW.regL ?_) | refine AW.regL ?_) | with_reducible refine K.tN ?_ | with_reducible refine K.bN ?_)
    refine ⟨rfl, trivial, ?_⟩
    exact (Weak.mk [some 0, some 1] _ _ _ rfl rfl rfl rfl (by (repeat' (first | exact trivial | refine And.intro ?_ ?_ | refine ⟨_, rfl, _, rfl, ?_⟩ | exact VLe.refl _)); done) (by (repeat' (first | exact trivial | refine And.intro ?_ ?_ | refine ⟨_, rfl, _, rfl, _, rfl, ?_⟩ | exact VLe.refl _ | exact VLe.of_eq (by simp [Sto.upd, allP_append, map_take _ _ _ hm]))); done))
  · intro _
    simp only [List.take_length]
    repeat' (first | ((with_reducible refine D.nil ?_); refine AX.nilL ?_) | ((with_reducible refine D.load ?_); refine L.ldb rfl rfl rfl rfl rfl rfl ?_) | ((with_reducible refine D.move ?_); refine L.mv rfl rfl rfl ?_) | ((with_reducible refine D.fieldAddr ?_); refine L.fab rfl rfl rfl rfl rfl ?_) | ((with_reducible refine D.assign ?_); refine L.asg rfl rfl rfl ?_) | ((with_reducible refine D.bin ?_); refine L.ad rfl rfl rfl rfl (by omega) ?_) | ((with_reducible refine D.call ?_); first | refine L.lnt rfl rfl rfl rfl ?_ | refine L.c2 (hq) rfl rfl rfl rfl ?_) | ((with_reducible refine D.aw ?_); first | refine K.sq (AW.regL ?_) | refine K.sq (K.sq ?_) | refine AW.regL ?_ | refine AW.condS rfl (fun h => ?_) (fun h => ?_) | refine AW.skip ?_) | with_reducible refine K.tN ?_)
    all_goals
      have hup : upF f.kind bl ≤ bl + 1 := by simp only [upF]; split <;> omega
      have hup0 : 0 ≤ upF f.kind bl := by simp only [upF]; split <;> omega
      refine AW.range f.args.length (fun m => True)
        (fun m => ([(1, .i (upF f.kind bl)), (2, .fn (.func 101) [] [.ptr 0 0]), (3, .ptr 1 0), (28, .s .fm f.args), (29, .i f.args.length), (30, .i m)], ⟨2, [(0, .var [.bool (allP Tm.nearE b (f.terms.map (fun t => (t, bl)) ++ (f.args.take m).flatMap (Fm.tms (upF f.kind bl))))]), (1, .var f.view)]⟩))
        (by omega) (fun m => rfl) (fun m => rfl) rfl trivial ?_ ?_ ?_
      · exact (Weak.mk [some 0, some 1] _ _ _ rfl rfl rfl rfl (by (repeat' (first | exact trivial | refine And.intro ?_ ?_ | refine ⟨_, rfl, _, rfl, ?_⟩ | exact VLe.refl _ | exact VLe.of_eq (by simp [Sto.upd, upF, h, allP_nil]))); done) (by (repeat' (first | exact trivial | refine And.intro ?_ ?_ | refine ⟨_, rfl, _, rfl, _, rfl, ?_⟩ | exact VLe.refl _ | exact VLe.of_eq (by simp [Sto.upd, upF, h, allP_nil]))); done))
      · intro m hm _
        have hs2 := lsum_mem Fm.full (List.getElem_mem hm)
        have hc := ih f.args[m] (allP Tm.nearE b (f.terms.map (fun t => (t, bl)) ++ (f.args.take m).flatMap (Fm.tms (upF f.kind bl)))) (upF f.kind bl) (by omega) (by omega) hup0 (by omega)
        repeat' (first | ((with_reducible refine D.nil ?_); refine AX.nilL ?_) | ((with_reducible refine D.load ?_); first | refine L.ldb rfl rfl rfl rfl rfl rfl ?_ | refine L.lda rfl rfl rfl rfl rfl ?_) | ((with_reducible refine D.move ?_); refine L.mv rfl rfl rfl ?_) | ((with_reducible refine D.call ?_); (apply L.cv2 (hc) [0] 0 rfl; rfl; rfl; rfl; rfl; rfl; rfl; rfl; (focus ((repeat' (first | exact trivial | refine And.intro ?_ ?_ | refine ⟨_, rfl, _, rfl, _, rfl, ?_⟩ | exact VLe.refl _)); done)); rfl; rfl; rfl; rfl)) | ((with_reducible refine D.alloc ?_); refine L.al rfl rfl rfl ?_) | ((with_reducible refine D.store ?_); refine L.st rfl rfl rfl rfl rfl rfl rfl rfl rfl ?_) | ((with_reducible refine D.indexAddr ?_); refine L.ixt _ rfl rfl rfl rfl rfl rfl rfl (by assumption) ?_) | ((with_reducible refine D.aw ?_); first | refine K.sq (AW.regL ?_) | refine AW.regL ?_) | with_reducible refine K.tN ?_ | with_reducible refine K.bN ?_)
        refine ⟨rfl, trivial, ?_⟩
        exact (Weak.mk [some 0, some 1] _ _ _ rfl rfl rfl rfl (by (repeat' (first | exact trivial | refine And.intro ?_ ?_ | refine ⟨_, rfl, _, rfl, ?_⟩ | exact VLe.refl _)); done) (by (repeat' (first | exact trivial | refine And.intro ?_ ?_ | refine ⟨_, rfl, _, rfl, _, rfl, ?_⟩ | exact VLe.refl _ | exact VLe.of_eq (by simp [Sto.upd, allP_append, flat_take _ _ _ hm]))); done))
      · intro _
        skip
        (exact K.n2 [some 0] rfl rfl rfl rfl rfl (by (repeat' (first | exact trivial | refine And.intro ?_ ?_ | refine ⟨_, rfl, _, rfl, _, rfl, ?_⟩ | exact VLe.of_eq (by simp [Sto.upd, htm]))); done) rfl (by simp [tupV, V.wk, V.wks, constV, Ty.view, Tm.view, htm]))
theorem nearFEachF : ∀ (n : Nat) (f : Fm) (b : Bool) (bl : Int), f.full ≤ n → n < 549755813888 → 0 ≤ bl → bl + n < 549755813888 → AC E 100 [.agg f.view, .i bl, .fn (.func 138) [] [.ptr 0 0]] ⟨1, [(0, .var [.bool b])]⟩ (.tup []) ⟨1, [(0, .var [.bool (allP Tm.near b (f.tms bl))])]⟩ := by
  intro n
  induction n with
  | zero => intro f; intros; have := f.full_pos; omega
  | succ n ih =>
  intro f b bl hsz hn hbl hbn
  have hsz' := f.full_eq
  have hlen := lsum_len Fm.full Fm.full_pos f.args
  have hlen2 := lsum_len Tm.full Tm.full_pos f.terms
  have htm := f.tms_eq bl
  have hq := quantifier_c f.kind
  refine AC.mk Tryz.func100 rfl rfl rfl rfl rfl (Nat.le_of_ble_eq_true rfl) ?_
  repeat' (first | ((with_reducible refine D.nil ?_); refine AX.nilL ?_) | ((with_reducible refine D.load ?_); refine L.ldb rfl rfl rfl rfl rfl rfl ?_) | ((with_reducible refine D.move ?_); refine L.mv rfl rfl rfl ?_) | ((with_reducible refine D.fieldAddr ?_); refine L.fab rfl rfl rfl rfl rfl ?_) | ((with_reducible refine D.call ?_); refine L.lnt rfl rfl rfl rfl ?_) | ((with_reducible refine D.box ?_); refine L.bx rfl rfl rfl rfl ?_) | ((with_reducible refine D.aw ?_); first | refine K.sq (AW.regL ?_) | refine K.sq (K.sq ?_) | refine AW.regL ?_) | with_reducible refine K.tN ?_)
  refine AW.range f.terms.length (fun m => True)
    (fun m => ([(1, .i bl), (2, .fn (.func 138) [] [.ptr 0 0]), (3, .ptr 1 0), (11, .s .tm f.terms), (12, .i f.terms.length), (13, .i m)], ⟨2, [(0, .var [.bool (allP Tm.near b ((f.terms.take m).map (fun t => (t, bl))))]), (1, .var f.view)]⟩))
    (by omega) (fun m => rfl) (fun m => rfl) rfl trivial ?_ ?_ ?_
  · exact (Weak.mk [some 0, some 1] _ _ _ rfl rfl rfl rfl (by (repeat' (first | exact trivial | refine And.intro ?_ ?_ | refine ⟨_, rfl, _, rfl, ?_⟩ | exact VLe.refl _)); done) (by (repeat' (first | exact trivial | refine And.intro ?_ ?_ | refine ⟨_, rfl, _, rfl, _, rfl, ?_⟩ | exact VLe.refl _ | exact VLe.of_eq (by simp [Sto.upd, allP_nil]))); done))
  · intro m hm _
    have hs2 := lsum_mem Tm.full (List.getElem_mem hm)
    have hc := nearFFm (allP Tm.near b ((f.terms.take m).map (fun t => (t, bl)))) f.terms[m] bl (by omega)
    repeat' (first | ((with_reducible refine D.nil ?_); refine AX.nilL ?_) | ((with_reducible refine D.load ?_); first | refine L.ldb rfl rfl rfl rfl rfl rfl ?_ | refine L.lda rfl rfl rfl rfl rfl ?_) | ((with_reducible refine D.move ?_); refine L.mv rfl rfl rfl ?_) | ((with_reducible refine D.call ?_); (apply L.cv2 (hc) [0] 0 rfl; rfl; rfl; rfl; rfl; rfl; rfl; rfl; (focus ((repeat' (first | exact trivial | refine And.intro ?_ ?_ | refine ⟨_, rfl, _, rfl, _, rfl, ?_⟩ | exact VLe.refl _)); done)); rfl; rfl; rfl; rfl)) | ((with_reducible refine D.alloc ?_); refine L.al rfl rfl rfl ?_) | ((with_reducible refine D.store ?_); refine L.st rfl rfl rfl rfl rfl rfl rfl rfl rfl ?_) | ((with_reducible refine D.indexAddr ?_); refine L.ixt _ rfl rfl rfl rfl rfl rfl rfl (by assumption) ?_) | ((with_reducible refine D.aw ?_); first | refine K.sq (AW.regL ?_) | refine AW.regL ?_) | with_reducible refine K.tN ?_ | with_reducible refine K.bN ?_)
    refine ⟨rfl, trivial, ?_⟩
    exact (Weak.mk [some 0, some 1] _ _ _ rfl rfl rfl rfl (by (repeat' (first | exact trivial | refine And.intro ?_ ?_ | refine ⟨_, rfl, _, rfl, ?_⟩ | exact VLe.refl _)); done) (by (repeat' (first | exact trivial | refine And.intro ?_ ?_ | refine ⟨_, rfl, _, rfl, _, rfl, ?_⟩ | exact VLe.refl _ | exact VLe.of_eq (by simp [Sto.upd, allP_append, map_take _ _ _ hm]))); done))
  · intro _
    simp only [List.take_length]
    repeat' (first | ((with_reducible refine D.nil ?_); refine AX.nilL ?_) | ((with_reducible refine D.load ?_); refine L.ldb rfl rfl rfl rfl rfl rfl ?_) | ((with_reducible refine D.move ?_); refine L.mv rfl rfl rfl ?_) | ((with_reducible refine D.fieldAddr ?_); refine L.fab rfl rfl rfl rfl rfl ?_) | ((with_reducible refine D.assign ?_); refine L.asg rfl rfl rfl ?_) | ((with_reducible refine D.bin ?_); refine L.ad rfl rfl rfl rfl (by omega) ?_) | ((with_reducible refine D.call ?_); first | refine L.lnt rfl rfl rfl rfl ?_ | refine L.c2 (hq) rfl rfl rfl rfl ?_) | ((with_reducible refine D.aw ?_); first | refine K.sq (AW.regL ?_) | refine K.sq (K.sq ?_) | refine AW.regL ?_ | refine AW.condS rfl (fun h => ?_) (fun h => ?_) | refine AW.skip ?_) | with_reducible refine K.tN ?_)
    all_goals
      have hup : upF f.kind bl ≤ bl + 1 := by simp only [upF]; split <;> omega
      have hup0 : 0 ≤ upF f.kind bl := by simp only [upF]; split <;> omega
      refine AW.range f.args.length (fun m => True)
        (fun m => ([(1, .i (upF f.kind bl)), (2, .fn (.func 138) [] [.ptr 0 0]), (3, .ptr 1 0), (28, .s .fm f.args), (29, .i f.args.length), (30, .i m)], ⟨2, [(0, .var [.bool (allP Tm.near b (f.terms.map (fun t => (t, bl)) ++ (f.args.take m).flatMap (Fm.tms (upF f.kind bl))))]), (1, .var f.view)]⟩))
        (by omega) (fun m => rfl) (fun m => rfl) rfl trivial ?_ ?_ ?_
      · exact (Weak.mk [some 0, some 1] _ _ _ rfl rfl rfl rfl (by (repeat' (first | exact trivial | refine And.intro ?_ ?_ | refine ⟨_, rfl, _, rfl, ?_⟩ | exact VLe.refl _ | exact VLe.of_eq (by simp [Sto.upd, upF, h, allP_nil]))); done) (by (repeat' (first | exact trivial | refine And.intro ?_ ?_ | refine ⟨_, rfl, _, rfl, _, rfl, ?_⟩ | exact VLe.refl _ | exact VLe.of_eq (by simp [Sto.upd, upF, h, allP_nil]))); done))
      · intro m hm _
        have hs2 := lsum_mem Fm.full (List.getElem_mem hm)
        have hc := ih f.args[m] (allP Tm.near b (f.terms.map (fun t => (t, bl)) ++ (f.args.take m).flatMap (Fm.tms (upF f.kind bl)))) (upF f.kind bl) (by omega) (by omega) hup0 (by omega)
        repeat' (first | ((with_reducible refine D.nil ?_); refine AX.nilL ?_) | ((with_reducible refine D.load ?_); first | refine L.ldb rfl rfl rfl rfl rfl rfl ?_ | refine L.lda rfl rfl rfl rfl rfl ?_) | ((with_reducible refine D.move ?_); refine L.mv rfl rfl rfl ?_) | ((with_reducible refine D.call ?_); (apply L.cv2 (hc) [0] 0 rfl; rfl; rfl; rfl; rfl; rfl; rfl; rfl; (focus ((repeat' (first | exact trivial | refine And.intro ?_ ?_ | refine ⟨_, rfl, _, rfl, _, rfl, ?_⟩ | exact VLe.refl _)); done)); rfl; rfl; rfl; rfl)) | ((with_reducible refine D.alloc ?_); refine L.al rfl rfl rfl ?_) | ((with_reducible refine D.store ?_); refine L.st rfl rfl rfl rfl rfl rfl rfl rfl rfl ?_) | ((with_reducible refine D.indexAddr ?_); refine L.ixt _ rfl rfl rfl rfl rfl rfl rfl (by assumption) ?_) | ((with_reducible refine D.aw ?_); first | refine K.sq (AW.regL ?_) | refine AW.regL ?_) | with_reducible refine K.tN ?_ | with_reducible refine K.bN ?_)
        refine ⟨rfl, trivial, ?_⟩
        exact (Weak.mk [some 0, some 1] _ _ _ rfl rfl rfl rfl (by (repeat' (first | exact trivial | refine And.intro ?_ ?_ | refine ⟨_, rfl, _, rfl, ?_⟩ | exact VLe.refl _)); done) (by (repeat' (first | exact trivial | refine And.intro ?_ ?_ | refine ⟨_, rfl, _, rfl, _, rfl, ?_⟩ | exact VLe.refl _ | exact VLe.of_eq (by simp [Sto.upd, allP_append, flat_take _ _ _ hm]))); done))
      · intro _
        skip
        (exact K.n2 [some 0] rfl rfl rfl rfl rfl (by (repeat' (first | exact trivial | refine And.intro ?_ ?_ | refine ⟨_, rfl, _, rfl, _, rfl, ?_⟩ | exact VLe.of_eq (by simp [Sto.upd, htm]))); done) rfl (by simp [tupV, V.wk, V.wks, constV, Ty.view, Tm.view, htm]))
theorem countFEachF (at_ C : Int) (ha : 0 ≤ at_ ∧ at_ < 549755813888) (hC : C < 549755813888) : ∀ (n : Nat) (f : Fm) (c : Int) (bl : Int), f.full ≤ n → n < 549755813888 → 0 ≤ bl → bl + n < 549755813888 → 0 ≤ c → c + f.size ≤ C → (∀ p ∈ f.tms bl, ∀ q ∈ p.1.vars 0, 0 ≤ q.1 ∧ q.1 < 1099511627776) → AC E 100 [.agg f.view, .i bl, .fn (.func 139) [] [.ptr 0 0, .ptr 1 0]] ⟨2, [(0, .var [.i c]), (1, .var [.i at_])]⟩ (.tup []) ⟨2, [(0, .var [.i (c + cntF at_ (f.tms bl))]), (1, .var [.i at_])]⟩ := by
  intro n
  induction n with
  | zero => intro f; intros; have := f.full_pos; omega
  | succ n ih =>
  intro f c bl hsz hn hbl hbn hc0 hcC hix
  have hsz' := f.full_eq
  have hlen := lsum_len Fm.full Fm.full_pos f.args
  have hlen2 := lsum_len Tm.full Tm.full_pos f.terms
  have htm := f.tms_eq bl
  have hq := quantifier_c f.kind
  refine AC.mk Tryz.func100 rfl rfl rfl rfl rfl (Nat.le_of_ble_eq_true rfl) ?_
  repeat' (first | ((with_reducible refine D.nil ?_); refine AX.nilL ?_) | ((with_reducible refine D.load ?_); refine L.ldb rfl rfl rfl rfl rfl rfl ?_) | ((with_reducible refine D.move ?_); refine L.mv rfl rfl rfl ?_) | ((with_reducible refine D.fieldAddr ?_); refine L.fab rfl rfl rfl rfl rfl ?_) | ((with_reducible refine D.call ?_); refine L.lnt rfl rfl rfl rfl ?_) | ((with_reducible refine D.box ?_); refine L.bx rfl rfl rfl rfl ?_) | ((with_reducible refine D.aw ?_); first | refine K.sq (AW.regL ?_) | refine K.sq (K.sq ?_) | refine AW.regL ?_) | with_reducible refine K.tN ?_)
  refine AW.range f.terms.length (fun m => True)
    (fun m => ([(1, .i bl), (2, .fn (.func 139) [] [.ptr 0 0, .ptr 1 0]), (3, .ptr 2 0), (11, .s .tm f.terms), (12, .i f.terms.length), (13, .i m)], ⟨3, [(0, .var [.i (c + cntF at_ ((f.terms.take m).map (fun t => (t, bl))))]), (1, .var [.i at_]), (2, .var f.view)]⟩))
    (by omega) (fun m => rfl) (fun m => rfl) rfl trivial ?_ ?_ ?_
  · exact (Weak.mk [some 0, some 1, some 2] _ _ _ rfl rfl rfl rfl (by (repeat' (first | exact trivial | refine And.intro ?_ ?_ | refine ⟨_, rfl, _, rfl, ?_⟩ | exact VLe.refl _)); done) (by (repeat' (first | exact trivial | refine And.intro ?_ ?_ | refine ⟨_, rfl, _, rfl, _, rfl, ?_⟩ | exact VLe.refl _ | exact VLe.of_eq (by simp [Sto.upd, cntF]))); done))
  · intro m hm _
    have hs2 := lsum_mem Tm.full (List.getElem_mem hm)
    have hle1 := cntF_le at_ ((f.terms.take m).map (fun t => (t, bl)))
    have hle2 : (((f.terms.take m).map (fun t => (t, bl))).map fun p : Tm × Int => p.1.size).sum ≤ f.size := tms_le1 f bl m
    have hc := countFFm at_ (c + cntF at_ ((f.terms.take m).map (fun t => (t, bl)))) f.terms[m] bl (by omega) (by omega) ha (by omega) (fun p hp => hix _ (by rw [htm]; exact List.mem_append_left _ (List.mem_map.2 ⟨_, List.getElem_mem hm, rfl⟩)) p hp)
    repeat' (first | ((with_reducible refine D.nil ?_); refine AX.nilL ?_) | ((with_reducible refine D.load ?_); first | refine L.ldb rfl rfl rfl rfl rfl rfl ?_ | refine L.lda rfl rfl rfl rfl rfl ?_) | ((with_reducible refine D.move ?_); refine L.mv rfl rfl rfl ?_) | ((with_reducible refine D.call ?_); (apply L.cv2 (hc) [0, 1] 0 rfl; rfl; rfl; rfl; rfl; rfl; rfl; rfl; (focus ((repeat' (first | exact trivial | refine And.intro ?_ ?_ | refine ⟨_, rfl, _, rfl, _, rfl, ?_⟩ | exact VLe.refl _)); done)); rfl; rfl; rfl; rfl)) | ((with_reducible refine D.alloc ?_); refine L.al rfl rfl rfl ?_) | ((with_reducible refine D.store ?_); refine L.st rfl rfl rfl rfl rfl rfl rfl rfl rfl ?_) | ((with_reducible refine D.indexAddr ?_); refine L.ixt _ rfl rfl rfl rfl rfl rfl rfl (by assumption) ?_) | ((with_reducible refine D.aw ?_); first | refine K.sq (AW.regL ?_) | refine AW.regL ?_) | with_reducible refine K.tN ?_ | with_reducible refine K.bN ?_)
    refine ⟨rfl, trivial, ?_⟩
    exact (Weak.mk [some 0, some 1, some 2] _ _ _ rfl rfl rfl rfl (by (repeat' (first | exact trivial | refine And.intro ?_ ?_ | refine ⟨_, rfl, _, rfl, ?_⟩ | exact VLe.refl _)); done) (by (repeat' (first | exact trivial | refine And.intro ?_ ?_ | refine ⟨_, rfl, _, rfl, _, rfl, ?_⟩ | exact VLe.refl _ | exact VLe.of_eq (by simp [Sto.upd, cntF_append, Int.natCast_add, Int.add_assoc, map_take _ _ _ hm]))); done))
  · intro _
    simp only [List.take_length]
    repeat' (first | ((with_reducible refine D.nil ?_); refine AX.nilL ?_) | ((with_reducible refine D.load ?_); refine L.ldb rfl rfl rfl rfl rfl rfl ?_) | ((with_reducible refine D.move ?_); refine L.mv rfl rfl rfl ?_) | ((with_reducible refine D.fieldAddr ?_); refine L.fab rfl rfl rfl rfl rfl ?_) | ((with_reducible refine D.assign ?_); refine L.asg rfl rfl rfl ?_) | ((with_reducible refine D.bin ?_); refine L.ad rfl rfl rfl rfl (by omega) ?_) | ((with_reducible refine D.call ?_); first | refine L.lnt rfl rfl rfl rfl ?_ | refine L.c2 (hq) rfl rfl rfl rfl ?_) | ((with_reducible refine D.aw ?_); first | refine K.sq (AW.regL ?_) | refine K.sq (K.sq ?_) | refine AW.regL ?_ | refine AW.condS rfl (fun h => ?_) (fun h => ?_) | refine AW.skip ?_) | with_reducible refine K.tN ?_)
    all_goals
      have hup : upF f.kind bl ≤ bl + 1 := by simp only [upF]; split <;> omega
      have hup0 : 0 ≤ upF f.kind bl := by simp only [upF]; split <;> omega
      refine AW.range f.args.length (fun m => True)
        (fun m => ([(1, .i (upF f.kind bl)), (2, .fn (.func 139) [] [.ptr 0 0, .ptr 1 0]), (3, .ptr 2 0), (28, .s .fm f.args), (29, .i f.args.length), (30, .i m)], ⟨3, [(0, .var [.i (c + cntF at_ (f.terms.map (fun t => (t, bl)) ++ (f.args.take m).flatMap (Fm.tms (upF f.kind bl))))]), (1, .var [.i at_]), (2, .var f.view)]⟩))
        (by omega) (fun m => rfl) (fun m => rfl) rfl trivial ?_ ?_ ?_
      · exact (Weak.mk [some 0, some 1, some 2] _ _ _ rfl rfl rfl rfl (by (repeat' (first | exact trivial | refine And.intro ?_ ?_ | refine ⟨_, rfl, _, rfl, ?_⟩ | exact VLe.refl _ | exact VLe.of_eq (by simp [Sto.upd, upF, h, cntF]))); done) (by (repeat' (first | exact trivial | refine And.intro ?_ ?_ | refine ⟨_, rfl, _, rfl, _, rfl, ?_⟩ | exact VLe.refl _ | exact VLe.of_eq (by simp [Sto.upd, upF, h, cntF]))); done))
      · intro m hm _
        have hs2 := lsum_mem Fm.full (List.getElem_mem hm)
        have hle1 := cntF_le at_ (f.terms.map (fun t => (t, bl)) ++ (f.args.take m).flatMap (Fm.tms (upF f.kind bl)))
        have hle2 : ((f.terms.map (fun t => (t, bl)) ++ (f.args.take m).flatMap (Fm.tms (upF f.kind bl))).map fun p : Tm × Int => p.1.size).sum + (f.args[m]).size ≤ f.size := tms_le2 f bl m hm
        have hc := ih f.args[m] (c + cntF at_ (f.terms.map (fun t => (t, bl)) ++ (f.args.take m).flatMap (Fm.tms (upF f.kind bl)))) (upF f.kind bl) (by omega) (by omega) hup0 (by omega) (by omega) (by omega) (fun p hp => hix p (by rw [htm]; exact List.mem_append_right _ (List.mem_flatMap.2 ⟨_, List.getElem_mem hm, hp⟩)))
        repeat' (first | ((with_reducible refine D.nil ?_); refine AX.nilL ?_) | ((with_reducible refine D.load ?_); first | refine L.ldb rfl rfl rfl rfl rfl rfl ?_ | refine L.lda rfl rfl rfl rfl rfl ?_) | ((with_reducible refine D.move ?_); refine L.mv rfl rfl rfl ?_) | ((with_reducible refine D.call ?_); (apply L.cv2 (hc) [0, 1] 0 rfl; rfl; rfl; rfl; rfl; rfl; rfl; rfl; (focus ((repeat' (first | exact trivial | refine And.intro ?_ ?_ | refine ⟨_, rfl, _, rfl, _, rfl, ?_⟩ | exact VLe.refl _)); done)); rfl; rfl; rfl; rfl)) | ((with_reducible refine D.alloc ?_); refine L.al rfl rfl rfl ?_) | ((with_reducible refine D.store ?_); refine L.st rfl rfl rfl rfl rfl rfl rfl rfl rfl ?_) | ((with_reducible refine D.indexAddr ?_); refine L.ixt _ rfl rfl rfl rfl rfl rfl rfl (by assumption) ?_) | ((with_reducible refine D.aw ?_); first | refine K.sq (AW.regL ?_) | refine AW.regL ?_) | with_reducible refine K.tN ?_ | with_reducible refine K.bN ?_)
        refine ⟨rfl, trivial, ?_⟩
        exact (Weak.mk [some 0, some 1, some 2] _ _ _ rfl rfl rfl rfl (by (repeat' (first | exact trivial | refine And.intro ?_ ?_ | refine ⟨_, rfl, _, rfl, ?_⟩ | exact VLe.refl _)); done) (by (repeat' (first | exact trivial | refine And.intro ?_ ?_ | refine ⟨_, rfl, _, rfl, _, rfl, ?_⟩ | exact VLe.refl _ | exact VLe.of_eq (by simp [Sto.upd, cntF_append, Int.natCast_add, Int.add_assoc, flat_take _ _ _ hm]))); done))
      · intro _
        skip
        (exact K.n2 [some 0, some 1] rfl rfl rfl rfl rfl (by (repeat' (first | exact trivial | refine And.intro ?_ ?_ | refine ⟨_, rfl, _, rfl, _, rfl, ?_⟩ | exact VLe.refl _ | exact VLe.of_eq (by simp [Sto.upd, htm]))); done) rfl (by simp [tupV, V.wk, V.wks, constV, Ty.view, Tm.view, htm]))
theorem enear_c (f : Fm) (hf : f.full < 274877906944) : PC E 46 [.agg f.view] (.bool f.nearE) := by
  have hc := nearEEachF _ f true 0 (Nat.le_refl _) (by omega) (by omega) (by omega)
  refine AC.mk Tryz.func46 rfl rfl rfl rfl rfl (Nat.le_of_ble_eq_true rfl) ?_
  repeat' (first | ((with_reducible refine D.nil ?_); refine AX.nilL ?_) | ((with_reducible refine D.load ?_); refine L.ldb rfl rfl rfl rfl rfl rfl ?_) | ((with_reducible refine D.assign ?_); refine L.asg rfl rfl rfl ?_) | ((with_reducible refine D.call ?_); (apply L.cv2 (hc) [1] 0 rfl; rfl; rfl; rfl; rfl; rfl; rfl; rfl; (focus ((repeat' (first | exact trivial | refine And.intro ?_ ?_ | refine ⟨_, rfl, _, rfl, _, rfl, ?_⟩ | exact VLe.refl _)); done)); rfl; rfl; rfl; rfl)) | ((with_reducible refine D.box ?_); refine L.bx rfl rfl rfl rfl ?_) | ((with_reducible refine D.alloc ?_); refine L.al rfl rfl rfl ?_) | ((with_reducible refine D.store ?_); refine L.st rfl rfl rfl rfl rfl rfl rfl rfl rfl ?_) | ((with_reducible refine D.ax ?_); refine L.mf rfl rfl rfl rfl ?_) | ((with_reducible refine D.aw ?_); first | refine K.sq (AW.regL ?_) | refine AW.ret ?_) | with_reducible refine K.tN ?_ | with_reducible refine K.r1 (by with_unfolding_all rfl) (by with_unfolding_all rfl) ?_)
  simp [tupV, V.wk, V.wks, allP, Fm.nearE]
theorem nearFm_c (f : Fm) (hf : f.full < 274877906944) : PC E 97 [.agg f.view] (.bool f.near) := by
  have hc := nearFEachF _ f true 0 (Nat.le_refl _) (by omega) (by omega) (by omega)
  refine AC.mk Tryz.func97 rfl rfl rfl rfl rfl (Nat.le_of_ble_eq_true rfl) ?_
  repeat' (first | ((with_reducible refine D.nil ?_); refine AX.nilL ?_) | ((with_reducible refine D.load ?_); refine L.ldb rfl rfl rfl rfl rfl rfl ?_) | ((with_reducible refine D.assign ?_); refine L.asg rfl rfl rfl ?_) | ((with_reducible refine D.call ?_); (apply L.cv2 (hc) [1] 0 rfl; rfl; rfl; rfl; rfl; rfl; rfl; rfl; (focus ((repeat' (first | exact trivial | refine And.intro ?_ ?_ | refine ⟨_, rfl, _, rfl, _, rfl, ?_⟩ | exact VLe.refl _)); done)); rfl; rfl; rfl; rfl)) | ((with_reducible refine D.box ?_); refine L.bx rfl rfl rfl rfl ?_) | ((with_reducible refine D.alloc ?_); refine L.al rfl rfl rfl ?_) | ((with_reducible refine D.store ?_); refine L.st rfl rfl rfl rfl rfl rfl rfl rfl rfl ?_) | ((with_reducible refine D.ax ?_); refine L.mf rfl rfl rfl rfl ?_) | ((with_reducible refine D.aw ?_); first | refine K.sq (AW.regL ?_) | refine AW.ret ?_) | with_reducible refine K.tN ?_ | with_reducible refine K.r1 (by with_unfolding_all rfl) (by with_unfolding_all rfl) ?_)
  simp [tupV, V.wk, V.wks, allP, Fm.near]
theorem countFm_c (f : Fm) (at_ : Int) (ha : 0 ≤ at_ ∧ at_ < 549755813888) (hf : f.full < 274877906944) (hix : ∀ p ∈ f.tms 0, ∀ q ∈ p.1.vars 0, 0 ≤ q.1 ∧ q.1 < 1099511627776) : PC E 98 [.agg f.view, .i at_] (.i (cntF at_ (f.tms 0))) := by
  have hle := f.size_le_full
  have hc := countFEachF at_ (f.size) ha (by omega) _ f 0 0 (Nat.le_refl _) (by omega) (by omega) (by omega) (by omega) (by omega) hix
  refine AC.mk Tryz.func98 rfl rfl rfl rfl rfl (Nat.le_of_ble_eq_true rfl) ?_
  repeat' (first | ((with_reducible refine D.nil ?_); refine AX.nilL ?_) | ((with_reducible refine D.load ?_); refine L.ldb rfl rfl rfl rfl rfl rfl ?_) | ((with_reducible refine D.assign ?_); refine L.asg rfl rfl rfl ?_) | ((with_reducible refine D.call ?_); (apply L.cv2 (hc) [2, 1] 0 rfl; rfl; rfl; rfl; rfl; rfl; rfl; rfl; (focus ((repeat' (first | exact trivial | refine And.intro ?_ ?_ | refine ⟨_, rfl, _, rfl, _, rfl, ?_⟩ | exact VLe.refl _)); done)); rfl; rfl; rfl; rfl)) | ((with_reducible refine D.box ?_); refine L.bx rfl rfl rfl rfl ?_) | ((with_reducible refine D.alloc ?_); refine L.al rfl rfl rfl ?_) | ((with_reducible refine D.store ?_); refine L.st rfl rfl rfl rfl rfl rfl rfl rfl rfl ?_) | ((with_reducible refine D.ax ?_); refine L.mf rfl rfl rfl rfl ?_) | ((with_reducible refine D.aw ?_); first | refine K.sq (AW.regL ?_) | refine AW.ret ?_) | with_reducible refine K.tN ?_ | with_reducible refine K.r1 (by with_unfolding_all rfl) (by with_unfolding_all rfl) ?_)
  simp [tupV, V.wk, V.wks]
end Go.Ab
namespace Go.Ab
open Go Go.Proofs
set_option maxRecDepth 100000
set_option maxHeartbeats 4000000
set_option linter.all false
theorem putFmCb (at_ : Int) (s : Tm) (hat : 0 ≤ at_ ∧ at_ < 274877906944) (hs : s.full < 274877906944) (hsi : ∀ p ∈ s.vars 0, 0 ≤ p.1 ∧ p.1 < 549755813888) (t : Tm) (bl : Int) (ht : t.full < 274877906944) (hb : 0 ≤ bl ∧ bl < 274877906944) (hix : ∀ p ∈ t.vars 0, 0 ≤ p.1 ∧ p.1 < 549755813888) :
    AC E 141 [.agg t.view, .i bl, .ptr 0 0, .ptr 1 0] ⟨2, [(0, .var [.i at_]), (1, .var s.view)]⟩ (.agg (t.re (putG (at_ + bl) s) 0).view) ⟨2, [(0, .var [.i at_]), (1, .var s.view)]⟩ := by
  have hc := put_c t (at_ + bl) s (by omega) hs hsi ht hix
  refine AC.mk Tryz.func141 rfl rfl rfl rfl rfl (Nat.le_of_ble_eq_true rfl) ?_
  repeat' (first | ((with_reducible refine D.nil ?_); refine AX.nilL ?_) | ((with_reducible refine D.load ?_); refine L.ldb rfl rfl rfl rfl rfl rfl ?_) | ((with_reducible refine D.move ?_); refine L.mv rfl rfl rfl ?_) | ((with_reducible refine D.bin ?_); refine L.ad rfl rfl rfl rfl (by omega) ?_) | ((with_reducible refine D.call ?_); refine L.c2 (hc) rfl rfl rfl rfl ?_) | ((with_reducible refine D.box ?_); refine L.bx rfl rfl rfl rfl ?_) | ((with_reducible refine D.alloc ?_); refine L.al rfl rfl rfl ?_) | ((with_reducible refine D.store ?_); refine L.st rfl rfl rfl rfl rfl rfl rfl rfl rfl ?_) | ((with_reducible refine D.aw ?_); first | refine K.sq (AW.regL ?_) | refine AW.ret ?_) | with_reducible refine K.tN ?_)
  (exact K.n2 [some 0, some 1] rfl rfl rfl rfl rfl (by (repeat' (first | exact trivial | refine And.intro ?_ ?_ | refine ⟨_, rfl, _, rfl, _, rfl, ?_⟩ | exact VLe.refl _)); done) rfl (by simp [tupV, V.wk, V.wks, constV, Ty.view, Tm.view, hc]))
theorem putFmRe (at_ : Int) (s : Tm) (hat : 0 ≤ at_ ∧ at_ < 274877906944) (hs : s.full < 274877906944) (hsi : ∀ p ∈ s.vars 0, 0 ≤ p.1 ∧ p.1 < 549755813888) : ∀ (n : Nat) (f : Fm) (bl : Int), f.full ≤ n → n < 274877906944 → 0 ≤ bl → bl + n < 274877906944 → (∀ p ∈ f.tms bl, ∀ q ∈ p.1.vars 0, 0 ≤ q.1 ∧ q.1 < 549755813888) →
    AC E 88 [.agg f.view, .i bl, .fn (.func 141) [] [.ptr 0 0, .ptr 1 0]] ⟨2, [(0, .var [.i at_]), (1, .var s.view)]⟩ (.agg (f.re (fun b t => t.re (putG (at_ + b) s) 0) bl).view) ⟨2, [(0, .var [.i at_]), (1, .var s.view)]⟩ := by
  intro n
  induction n with
  | zero => intro f bl h; intros; have := f.full_pos; omega
  | succ n ih =>
  intro f bl hsz hb hbl hbn hix
  have hsz' := f.full_eq
  have hlen := lsum_len Fm.full Fm.full_pos f.args
  have hlen2 := lsum_len Tm.full Tm.full_pos f.terms
  have hty := ownTy_c _ f.ty (Nat.le_refl _) (by omega)
  have hq := quantifier_c f.kind
  have hre := Fm.re_eq (fun b t => t.re (putG (at_ + b) s) 0) bl f
  have htm := f.tms_eq bl
  refine AC.mk Tryz.func88 rfl rfl rfl rfl rfl (Nat.le_of_ble_eq_true rfl) ?_
  repeat' (first | ((with_reducible refine D.nil ?_); first | refine AX.nilL ?_ | refine AX.nilD (by kernel_rfl) ?_) | ((with_reducible refine D.load ?_); refine L.ldb rfl rfl rfl rfl rfl rfl ?_) | ((with_reducible refine D.move ?_); refine L.mv rfl rfl rfl ?_) | ((with_reducible refine D.fieldAddr ?_); refine L.fab rfl rfl rfl rfl rfl ?_) | ((with_reducible refine D.call ?_); first | refine L.lnt rfl rfl rfl rfl ?_ | refine L.c2 (hty) rfl rfl rfl rfl ?_) | ((with_reducible refine D.box ?_); refine L.bx rfl rfl rfl rfl ?_) | ((with_reducible refine D.alloc ?_); refine L.al rfl rfl rfl ?_) | ((with_reducible refine D.store ?_); refine L.st rfl rfl rfl rfl rfl rfl rfl rfl rfl ?_) | ((with_reducible refine D.ax ?_); refine L.bd rfl rfl rfl rfl rfl ?_) | ((with_reducible refine D.aw ?_); first | refine K.sq (AW.regL ?_) | refine K.sq (AW.regD mixed (by kernel_rfl) ?_) | refine K.sq (K.sq ?_) | refine AW.regL ?_) | with_reducible refine K.tN ?_)
  refine AW.range f.terms.length (fun m => True)
    (fun m => ([(1, .i bl), (2, .fn (.func 141) [] [.ptr 0 0, .ptr 1 0]), (3, .ptr 2 0), (6, .ptr 3 0), (7, .ptr 4 0), (19, .s .tm f.terms), (20, .i f.terms.length), (21, .i m)], ⟨6, [(0, .var [.i at_]), (1, .var s.view), (2, .var f.view), (3, .var [.i 0, .i 0, .slice .nil (.t .ty []), .slice .nil (.t .tm []), .slice .nil (.t .fm [])]), (4, .var [.i f.kind, .i f.ty.kind, .s .ty f.ty.args, .slice (.own 5) (.t .tm ((f.terms.take m).map ((fun b t => t.re (putG (at_ + b) s) 0) bl))), .slice .nil (.t .fm [])]), (5, .row)]⟩))
    (by omega) (fun m => rfl) (fun m => rfl) rfl trivial (Weak.mk [some 0, some 1, some 2, some 3, some 4, none] _ _ _ rfl rfl rfl rfl (by (repeat' (first | exact trivial | refine And.intro ?_ ?_ | refine ⟨_, rfl, _, rfl, ?_⟩ | exact VLe.refl _)); done) (by (repeat' (first | exact trivial | exact Or.inl rfl | refine And.intro ?_ ?_ | refine ⟨_, rfl, _, rfl, _, rfl, ?_⟩ | exact VLe.refl _)); done)) ?_ ?_
  · intro m hm _
    have hs2 := lsum_mem Tm.full (List.getElem_mem hm)
    have hc := putFmCb at_ s hat hs hsi f.terms[m] bl (by omega) (by omega) (fun p hp => hix _ (by rw [htm]; exact List.mem_append_left _ (List.mem_map.2 ⟨_, List.getElem_mem hm, rfl⟩)) p hp)
    repeat' (first | ((with_reducible refine D.nil ?_); first | refine AX.nilL ?_ | refine AX.nilD (by kernel_rfl) ?_) | ((with_reducible refine D.load ?_); first | refine L.ldb rfl rfl rfl rfl rfl rfl ?_ | refine L.lda rfl rfl rfl rfl rfl ?_) | ((with_reducible refine D.move ?_); refine L.mv rfl rfl rfl ?_) | ((with_reducible refine D.fieldAddr ?_); refine L.fab rfl rfl rfl rfl rfl ?_) | ((with_reducible refine D.call ?_); first | refine L.apt rfl rfl rfl rfl rfl rfl (by first | exact trivial | exact ⟨rfl, trivial⟩) rfl rfl (by first | omega | (simp; omega)) ?_ | (apply L.cv2 (hc) [0, 1] 0 rfl; rfl; rfl; rfl; rfl; rfl; rfl; rfl; (focus ((repeat' (first | exact trivial | refine And.intro ?_ ?_ | refine ⟨_, rfl, _, rfl, _, rfl, ?_⟩ | exact VLe.refl _)); done)); rfl; rfl; rfl; rfl)) | ((with_reducible refine D.alloc ?_); refine L.al rfl rfl rfl ?_) | ((with_reducible refine D.store ?_); refine L.st rfl rfl rfl rfl rfl rfl rfl rfl rfl ?_) | ((with_reducible refine D.indexAddr ?_); refine L.ixt _ rfl rfl rfl rfl rfl rfl rfl (by assumption) ?_) | ((with_reducible refine D.ax ?_); refine L.bs1 rfl rfl rfl rfl rfl (EC.fold_of rfl) rfl rfl ?_) | ((with_reducible refine D.aw ?_); first | refine K.sq (AW.regL ?_) | refine AW.regD mixed (by kernel_rfl) ?_) | with_reducible refine K.tN ?_ | with_reducible refine K.bN ?_)
    exact ⟨rfl, trivial, (Weak.mk [some 0, some 1, some 2, some 3, some 4, some 7] _ _ _ rfl rfl rfl rfl (by (repeat' (first | exact trivial | refine And.intro ?_ ?_ | refine ⟨_, rfl, _, rfl, ?_⟩ | exact VLe.refl _)); done) (by (repeat' (first | exact trivial | exact Or.inr ⟨_, rfl, rfl⟩ | refine And.intro ?_ ?_ | refine ⟨_, rfl, _, rfl, _, rfl, ?_⟩ | exact VLe.refl _ | exact VLe.of_eq (by simp [Sto.upd, map_take _ _ _ hm]))); done))⟩
  · intro _
    simp only [List.take_length]
    cases hqk : quantK f.kind with
    | true =>
      rw [hqk] at hq
      have hu : upF f.kind bl = bl + 1 := by simp [upF, hqk]
      rw [hu] at hre htm
      repeat' (first | ((with_reducible refine D.nil ?_); refine AX.nilL ?_) | ((with_reducible refine D.load ?_); refine L.ldb rfl rfl rfl rfl rfl rfl ?_) | ((with_reducible refine D.move ?_); refine L.mv rfl rfl rfl ?_) | ((with_reducible refine D.fieldAddr ?_); refine L.fab rfl rfl rfl rfl rfl ?_) | ((with_reducible refine D.assign ?_); refine L.asg rfl rfl rfl ?_) | ((with_reducible refine D.bin ?_); refine L.ad rfl rfl rfl rfl (by omega) ?_) | ((with_reducible refine D.call ?_); first | refine L.lnt rfl rfl rfl rfl ?_ | refine L.c2 (hq) rfl rfl rfl rfl ?_) | ((with_reducible refine D.aw ?_); first | refine K.sq (K.sq ?_) | refine AW.regL ?_ | refine AW.condT rfl ?_) | with_reducible refine K.tN ?_)
      refine AW.range f.args.length (fun m => True)
        (fun m => ([(1, .i (bl + 1)), (2, .fn (.func 141) [] [.ptr 0 0, .ptr 1 0]), (3, .ptr 2 0), (6, .ptr 3 0), (7, .ptr 4 0), (41, .s .fm f.args), (42, .i f.args.length), (43, .i m)], ⟨7, [(0, .var [.i at_]), (1, .var s.view), (2, .var f.view), (3, .var [.i 0, .i 0, .slice .nil (.t .ty []), .slice .nil (.t .tm []), .slice .nil (.t .fm [])]), (4, .var [.i f.kind, .i f.ty.kind, .s .ty f.ty.args, .slice (.own 5) (.t .tm (f.terms.map ((fun b t => t.re (putG (at_ + b) s) 0) bl))), .slice (.own 6) (.t .fm ((f.args.take m).map (Fm.re (fun b t => t.re (putG (at_ + b) s) 0) (bl + 1))))]), (5, .row), (6, .row)]⟩))
        (by omega) (fun m => rfl) (fun m => rfl) rfl trivial (Weak.mk [some 0, some 1, some 2, some 3, some 4, some 5, none] _ _ _ rfl rfl rfl rfl (by (repeat' (first | exact trivial | refine And.intro ?_ ?_ | refine ⟨_, rfl, _, rfl, ?_⟩ | exact VLe.refl _)); done) (by (repeat' (first | exact trivial | exact Or.inl rfl | exact Or.inr ⟨_, rfl, rfl⟩ | refine And.intro ?_ ?_ | refine ⟨_, rfl, _, rfl, _, rfl, ?_⟩ | exact VLe.refl _)); done)) ?_ ?_
      · intro m hm _
        have hs2 := lsum_mem Fm.full (List.getElem_mem hm)
        have hc := ih f.args[m] (bl + 1) (by omega) (by omega) (by omega) (by omega) (fun p hp => hix p (by rw [htm]; exact List.mem_append_right _ (List.mem_flatMap.2 ⟨_, List.getElem_mem hm, hp⟩)))
        repeat' (first | ((with_reducible refine D.nil ?_); first | refine AX.nilL ?_ | refine AX.nilD (by kernel_rfl) ?_) | ((with_reducible refine D.load ?_); first | refine L.ldb rfl rfl rfl rfl rfl rfl ?_ | refine L.lda rfl rfl rfl rfl rfl ?_) | ((with_reducible refine D.move ?_); refine L.mv rfl rfl rfl ?_) | ((with_reducible refine D.fieldAddr ?_); refine L.fab rfl rfl rfl rfl rfl ?_) | ((with_reducible refine D.call ?_); first | refine L.apt rfl rfl rfl rfl rfl rfl (by first | exact trivial | exact ⟨rfl, trivial⟩) rfl rfl (by first | omega | (simp; omega)) ?_ | (apply L.cv2 (hc) [0, 1] 0 rfl; rfl; rfl; rfl; rfl; rfl; rfl; rfl; (focus ((repeat' (first | exact trivial | refine And.intro ?_ ?_ | refine ⟨_, rfl, _, rfl, _, rfl, ?_⟩ | exact VLe.refl _)); done)); rfl; rfl; rfl; rfl)) | ((with_reducible refine D.alloc ?_); refine L.al rfl rfl rfl ?_) | ((with_reducible refine D.store ?_); refine L.st rfl rfl rfl rfl rfl rfl rfl rfl rfl ?_) | ((with_reducible refine D.indexAddr ?_); refine L.ixt _ rfl rfl rfl rfl rfl rfl rfl (by assumption) ?_) | ((with_reducible refine D.ax ?_); refine L.bs1 rfl rfl rfl rfl rfl (EC.fold_of rfl) rfl rfl ?_) | ((with_reducible refine D.aw ?_); first | refine K.sq (AW.regL ?_) | refine AW.regD mixed (by kernel_rfl) ?_) | with_reducible refine K.tN ?_ | with_reducible refine K.bN ?_)
        exact ⟨rfl, trivial, (Weak.mk [some 0, some 1, some 2, some 3, some 4, some 5, some 8] _ _ _ rfl rfl rfl rfl (by (repeat' (first | exact trivial | refine And.intro ?_ ?_ | refine ⟨_, rfl, _, rfl, ?_⟩ | exact VLe.refl _)); done) (by (repeat' (first | exact trivial | exact Or.inr ⟨_, rfl, rfl⟩ | refine And.intro ?_ ?_ | refine ⟨_, rfl, _, rfl, _, rfl, ?_⟩ | exact VLe.refl _ | exact VLe.of_eq (by simp [Sto.upd, map_take _ _ _ hm]))); done))⟩
      · intro _
        simp only [List.take_length]
        repeat' (first | ((with_reducible refine D.nil ?_); refine AX.nilL ?_) | ((with_reducible refine D.load ?_); refine L.ldb rfl rfl rfl rfl rfl rfl ?_) | ((with_reducible refine D.store ?_); refine L.st rfl rfl rfl rfl rfl rfl rfl rfl rfl ?_) | ((with_reducible refine D.aw ?_); first | refine K.sq (AW.regL ?_) | refine AW.ret ?_) | with_reducible refine K.tN ?_)
        (exact K.n2 [some 0, some 1] rfl rfl rfl rfl rfl (by (repeat' (first | exact trivial | refine And.intro ?_ ?_ | refine ⟨_, rfl, _, rfl, _, rfl, ?_⟩ | exact VLe.refl _)); done) rfl (by simp [tupV, V.wk, V.wks, constV, Ty.view, Tm.view, hre]))
    | false =>
      rw [hqk] at hq
      have hu : upF f.kind bl = bl := by simp [upF, hqk]
      rw [hu] at hre htm
      repeat' (first | ((with_reducible refine D.nil ?_); refine AX.nilL ?_) | ((with_reducible refine D.load ?_); refine L.ldb rfl rfl rfl rfl rfl rfl ?_) | ((with_reducible refine D.move ?_); refine L.mv rfl rfl rfl ?_) | ((with_reducible refine D.fieldAddr ?_); refine L.fab rfl rfl rfl rfl rfl ?_) | ((with_reducible refine D.call ?_); first | refine L.lnt rfl rfl rfl rfl ?_ | refine L.c2 (hq) rfl rfl rfl rfl ?_) | ((with_reducible refine D.aw ?_); first | refine K.sq (K.sq ?_) | refine AW.regL ?_ | refine AW.condF rfl ?_ | refine AW.skip ?_) | with_reducible refine K.tN ?_)
      refine AW.range f.args.length (fun m => True)
        (fun m => ([(1, .i bl), (2, .fn (.func 141) [] [.ptr 0 0, .ptr 1 0]), (3, .ptr 2 0), (6, .ptr 3 0), (7, .ptr 4 0), (41, .s .fm f.args), (42, .i f.args.length), (43, .i m)], ⟨7, [(0, .var [.i at_]), (1, .var s.view), (2, .var f.view), (3, .var [.i 0, .i 0, .slice .nil (.t .ty []), .slice .nil (.t .tm []), .slice .nil (.t .fm [])]), (4, .var [.i f.kind, .i f.ty.kind, .s .ty f.ty.args, .slice (.own 5) (.t .tm (f.terms.map ((fun b t => t.re (putG (at_ + b) s) 0) bl))), .slice (.own 6) (.t .fm ((f.args.take m).map (Fm.re (fun b t => t.re (putG (at_ + b) s) 0) bl)))]), (5, .row), (6, .row)]⟩))
        (by omega) (fun m => rfl) (fun m => rfl) rfl trivial (Weak.mk [some 0, some 1, some 2, some 3, some 4, some 5, none] _ _ _ rfl rfl rfl rfl (by (repeat' (first | exact trivial | refine And.intro ?_ ?_ | refine ⟨_, rfl, _, rfl, ?_⟩ | exact VLe.refl _)); done) (by (repeat' (first | exact trivial | exact Or.inl rfl | exact Or.inr ⟨_, rfl, rfl⟩ | refine And.intro ?_ ?_ | refine ⟨_, rfl, _, rfl, _, rfl, ?_⟩ | exact VLe.refl _)); done)) ?_ ?_
      · intro m hm _
        have hs2 := lsum_mem Fm.full (List.getElem_mem hm)
        have hc := ih f.args[m] bl (by omega) (by omega) (by omega) (by omega) (fun p hp => hix p (by rw [htm]; exact List.mem_append_right _ (List.mem_flatMap.2 ⟨_, List.getElem_mem hm, hp⟩)))
        repeat' (first | ((with_reducible refine D.nil ?_); first | refine AX.nilL ?_ | refine AX.nilD (by kernel_rfl) ?_) | ((with_reducible refine D.load ?_); first | refine L.ldb rfl rfl rfl rfl rfl rfl ?_ | refine L.lda rfl rfl rfl rfl rfl ?_) | ((with_reducible refine D.move ?_); refine L.mv rfl rfl rfl ?_) | ((with_reducible refine D.fieldAddr ?_); refine L.fab rfl rfl rfl rfl rfl ?_) | ((with_reducible refine D.call ?_); first | refine L.apt rfl rfl rfl rfl rfl rfl (by first | exact trivial | exact ⟨rfl, trivial⟩) rfl rfl (by first | omega | (simp; omega)) ?_ | (apply L.cv2 (hc) [0, 1] 0 rfl; rfl; rfl; rfl; rfl; rfl; rfl; rfl; (focus ((repeat' (first | exact trivial | refine And.intro ?_ ?_ | refine ⟨_, rfl, _, rfl, _, rfl, ?_⟩ | exact VLe.refl _)); done)); rfl; rfl; rfl; rfl)) | ((with_reducible refine D.alloc ?_); refine L.al rfl rfl rfl ?_) | ((with_reducible refine D.store ?_); refine L.st rfl rfl rfl rfl rfl rfl rfl rfl rfl ?_) | ((with_reducible refine D.indexAddr ?_); refine L.ixt _ rfl rfl rfl rfl rfl rfl rfl (by assumption) ?_) | ((with_reducible refine D.ax ?_); refine L.bs1 rfl rfl rfl rfl rfl (EC.fold_of rfl) rfl rfl ?_) | ((with_reducible refine D.aw ?_); first | refine K.sq (AW.regL ?_) | refine AW.regD mixed (by kernel_rfl) ?_) | with_reducible refine K.tN ?_ | with_reducible refine K.bN ?_)
        exact ⟨rfl, trivial, (Weak.mk [some 0, some 1, some 2, some 3, some 4, some 5, some 8] _ _ _ rfl rfl rfl rfl (by (repeat' (first | exact trivial | refine And.intro ?_ ?_ | refine ⟨_, rfl, _, rfl, ?_⟩ | exact VLe.refl _)); done) (by (repeat' (first | exact trivial | exact Or.inr ⟨_, rfl, rfl⟩ | refine And.intro ?_ ?_ | refine ⟨_, rfl, _, rfl, _, rfl, ?_⟩ | exact VLe.refl _ | exact VLe.of_eq (by simp [Sto.upd, map_take _ _ _ hm]))); done))⟩
      · intro _
        simp only [List.take_length]
        repeat' (first | ((with_reducible refine D.nil ?_); refine AX.nilL ?_) | ((with_reducible refine D.load ?_); refine L.ldb rfl rfl rfl rfl rfl rfl ?_) | ((with_reducible refine D.store ?_); refine L.st rfl rfl rfl rfl rfl rfl rfl rfl rfl ?_) | ((with_reducible refine D.aw ?_); first | refine K.sq (AW.regL ?_) | refine AW.ret ?_) | with_reducible refine K.tN ?_)
        (exact K.n2 [some 0, some 1] rfl rfl rfl rfl rfl (by (repeat' (first | exact trivial | refine And.intro ?_ ?_ | refine ⟨_, rfl, _, rfl, _, rfl, ?_⟩ | exact VLe.refl _)); done) rfl (by simp [tupV, V.wk, V.wks, constV, Ty.view, Tm.view, hre]))
theorem putFm_c (f : Fm) (at_ : Int) (s : Tm) (hat : 0 ≤ at_ ∧ at_ < 274877906944) (hs : s.full < 274877906944) (hsi : ∀ p ∈ s.vars 0, 0 ≤ p.1 ∧ p.1 < 549755813888) (hf : f.full < 137438953472) (hix : ∀ p ∈ f.tms 0, ∀ q ∈ p.1.vars 0, 0 ≤ q.1 ∧ q.1 < 549755813888) : PC E 99 [.agg f.view, .i at_, .agg s.view] (.agg (f.put at_ s).view) := by
  have hc := putFmRe at_ s hat hs hsi _ f 0 (Nat.le_refl _) (by omega) (by omega) (by omega) hix
  refine AC.mk Tryz.func99 rfl rfl rfl rfl rfl (Nat.le_of_ble_eq_true rfl) ?_
  repeat' (first | ((with_reducible refine D.nil ?_); refine AX.nilL ?_) | ((with_reducible refine D.load ?_); refine L.ldb rfl rfl rfl rfl rfl rfl ?_) | ((with_reducible refine D.call ?_); (apply L.cv2 (hc) [1, 2] 0 rfl; rfl; rfl; rfl; rfl; rfl; rfl; rfl; (focus ((repeat' (first | exact trivial | refine And.intro ?_ ?_ | refine ⟨_, rfl, _, rfl, _, rfl, ?_⟩ | exact VLe.refl _)); done)); rfl; rfl; rfl; rfl)) | ((with_reducible refine D.box ?_); refine L.bx rfl rfl rfl rfl ?_) | ((with_reducible refine D.alloc ?_); refine L.al rfl rfl rfl ?_) | ((with_reducible refine D.store ?_); refine L.st rfl rfl rfl rfl rfl rfl rfl rfl rfl ?_) | ((with_reducible refine D.ax ?_); refine L.mf rfl rfl rfl rfl ?_) | ((with_reducible refine D.aw ?_); first | refine K.sq (AW.regL ?_) | refine AW.ret ?_) | with_reducible refine K.tN ?_ | with_reducible refine K.r1 (by with_unfolding_all rfl) (by with_unfolding_all rfl) ?_)
  rfl
theorem fsize_c (f : Fm) (hf : f.full < 1099511627776) : PC E 94 [.agg f.view] (.tup [.i f.num, .i f.err]) := by
  have h1 := checkFm_c f hf
  refine AC.mk Tryz.func94 rfl rfl rfl rfl rfl (Nat.le_of_ble_eq_true rfl) ?_
  repeat' (first | ((with_reducible refine D.nil ?_); refine AX.nilL ?_) | ((with_reducible refine D.load ?_); refine L.ldb rfl rfl rfl rfl rfl rfl ?_) | ((with_reducible refine D.assign ?_); refine L.asg rfl rfl rfl ?_) | ((with_reducible refine D.call ?_); refine L.c2 (h1) rfl rfl rfl rfl ?_) | ((with_reducible refine D.extract ?_); refine L.ex rfl rfl rfl rfl ?_) | ((with_reducible refine D.box ?_); refine L.bx rfl rfl rfl rfl ?_) | ((with_reducible refine D.aw ?_); first | refine K.sq (AW.regL ?_) | refine AW.ret ?_) | with_reducible refine K.tN ?_ | with_reducible refine K.r1 (by with_unfolding_all rfl) (by with_unfolding_all rfl) ?_)
  rfl
theorem fwithin_c (n : Int) : PC E 95 [.i n] (.bool (decide (0 ≤ n ∧ n ≤ 4096))) := by
  refine AC.mk Tryz.func95 rfl rfl rfl rfl rfl (Nat.le_of_ble_eq_true rfl) ?_
  repeat' (first | ((with_reducible refine D.nil ?_); refine AX.nilL ?_) | ((with_reducible refine D.move ?_); first | refine L.mv rfl rfl rfl ?_ | refine AX.sk rfl rfl ?_ | ((fail_if_success refine AX.wt rfl ?_); refine AX.gs rfl rfl (fun _ => trivial) (fun h => ?_) (fun h => ?_))) | ((with_reducible refine D.assign ?_); refine L.asg rfl rfl rfl ?_) | ((with_reducible refine D.bin ?_); first | refine L.bn rfl rfl rfl rfl rfl ?_ | refine AX.sk rfl rfl ?_) | ((with_reducible refine D.pick ?_); refine L.pk rfl rfl rfl rfl ?_) | ((with_reducible refine D.aw ?_); first | refine K.sq (AW.regL ?_) | refine AW.ret ?_) | with_reducible refine K.tN ?_ | with_reducible refine K.r1 (by with_unfolding_all rfl) (by with_unfolding_all rfl) ?_)
  all_goals (simp_all [tupV, V.wk, V.wks, constV]; try omega)
theorem fput_c (f : Fm) (at_ : Int) (s : Tm) (hf : f.full < 137438953472) (hs : s.full < 274877906944) : PC E 45 [.agg f.view, .i at_, .agg s.view] (.tup [.agg (if putFErr f at_ s = 0 then f.put at_ s else noFm).view, .i (putFErr f at_ s)]) := by
  have h1 := fsize_c f (by omega)
  have h2 := size_c s (by omega)
  have h3 := fwithin_c at_
  have h4 := nearFm_c f (by omega)
  have h5 := near_c s (by omega)
  have h6 : f.err = 0 → f.near = true → 0 ≤ at_ ∧ at_ ≤ 4096 → _ := fun h hn ha => countFm_c f at_ (by omega) (by omega) fun p hp q hq => by have := nearF_lt h hn p hp q hq; omega
  have h7 : f.err = 0 → f.near = true → s.err = 0 → s.near = true → 0 ≤ at_ ∧ at_ ≤ 4096 → _ := fun h hn h' hn' ha => putFm_c f at_ s (by omega) hs (near_lt h' hn') hf (nearF_lt h hn)
  have hn1 := fnum_le f
  have hn2 := num_le s
  have hle := f.size_le_full
  have hcl := cntF_le at_ (f.tms 0)
  have hvl := tms_size f 0
  have hm := mul_bd (cntF at_ (f.tms 0)) (s.num - 1) (by omega) (by omega)
  have hm' : -9223372036854775808 ≤ (cntF at_ (f.tms 0) : Int) * (s.num - 1) ∧ (cntF at_ (f.tms 0) : Int) * (s.num - 1) ≤ 9223372036854775807 := by omega
  refine AC.mk Tryz.func45 rfl rfl rfl rfl rfl (Nat.le_of_ble_eq_true rfl) ?_
  repeat' (first | ((with_reducible refine D.nil ?_); refine AX.nilL ?_) | ((with_reducible refine D.load ?_); first | refine L.ldb rfl rfl rfl rfl rfl rfl ?_ | refine AX.sk rfl rfl ?_ | ((fail_if_success refine AX.wt rfl ?_); refine AX.gs rfl rfl (fun _ => trivial) (fun h => ?_) (fun h => ?_))) | ((with_reducible refine D.move ?_); refine L.mv rfl rfl rfl ?_) | ((with_reducible refine D.assign ?_); refine L.asg rfl rfl rfl ?_) | ((with_reducible refine D.bin ?_); first | refine L.ad rfl rfl rfl rfl (by omega) ?_ | refine L.sb rfl rfl rfl rfl (by omega) ?_ | refine L.ml rfl rfl rfl rfl (by first | omega | assumption) ?_ | refine L.bn rfl rfl rfl rfl rfl ?_) | ((with_reducible refine D.call ?_); first | refine L.c2 (h1) rfl rfl rfl rfl ?_ | refine L.c2 (h2) rfl rfl rfl rfl ?_ | refine L.c2 (h3) rfl rfl rfl rfl ?_ | refine L.c2 (h4) rfl rfl rfl rfl ?_ | refine L.c2 (h5) rfl rfl rfl rfl ?_ | refine L.c2 (h6 (by simp_all) (by simp_all) (by simp_all)) rfl rfl rfl rfl ?_ | refine L.c2 (h7 (by simp_all) (by simp_all) (by simp_all) (by simp_all) (by simp_all)) rfl rfl rfl rfl ?_ | refine AX.sk rfl rfl ?_) | ((with_reducible refine D.extract ?_); refine L.ex rfl rfl rfl rfl ?_) | ((with_reducible refine D.box ?_); refine L.bx rfl rfl rfl rfl ?_) | ((with_reducible refine D.alloc ?_); refine L.al rfl rfl rfl ?_) | ((with_reducible refine D.store ?_); refine L.st rfl rfl rfl rfl rfl rfl rfl rfl rfl ?_) | ((with_reducible refine D.not ?_); first | refine L.nt rfl rfl rfl ?_ | refine AX.sk rfl rfl ?_) | ((with_reducible refine D.pick ?_); refine L.pk rfl rfl rfl rfl ?_) | ((with_reducible refine D.ax ?_); refine L.bd rfl rfl rfl rfl rfl ?_) | ((with_reducible refine D.aw ?_); first | refine K.sq (AW.regL ?_) | refine K.sq (K.sq ?_) | refine AW.regL ?_ | refine AW.condT rfl ?_ | refine AW.condS rfl (fun h => ?_) (fun h => ?_) | refine AW.skip ?_ | refine AW.ret ?_) | with_reducible refine K.tN ?_ | with_reducible refine K.tR ?_ | with_reducible refine K.r1 (by with_unfolding_all rfl) (by with_unfolding_all rfl) ?_)
  all_goals first
    | (simp_all [tupV, V.wk, V.wks, constV, Ty.view, Fm.view, putFErr, noFm, Fm.num, Tm.num]; done)
    | skip
  rename_i h0
  have h' : ¬ (0 ≤ at_ ∧ at_ ≤ 4096) := by intro hc; simp [hc] at h
  have h0' : f.err = 0 := by simpa using h0
  have e : putFErr f at_ s = 1 := by simp only [putFErr, h0', ne_eq, not_true_eq_false, if_false, h', not_false_eq_true, if_true]
  simp [tupV, V.wk, V.wks, constV, Ty.view, Fm.view, e, noFm]
theorem sameForm_c : ∀ (n : Nat) (x y : Fm), x.full ≤ n → n < 1099511627776 → PC E 108 [.agg x.view, .agg y.view] (.bool (decide (x = y))) := by
  intro n
  induction n with
  | zero => intro x y h; have := x.full_pos; omega
  | succ n ih =>
  intro x y hsz hb
  have hsz' := x.full_eq
  have hlen := lsum_len Fm.full Fm.full_pos x.args
  have hlen2 := lsum_len Tm.full Tm.full_pos x.terms
  have heq := Fm.eq_iff x y
  have hty := sameTy2_c _ x.ty y.ty (Nat.le_refl _) (by omega)
  refine AC.mk Tryz.func108 rfl rfl rfl rfl rfl (Nat.le_of_ble_eq_true rfl) ?_
  repeat' (first | ((with_reducible refine D.nil ?_); refine AX.nilL ?_) | ((with_reducible refine D.load ?_); first | refine L.ldb rfl rfl rfl rfl rfl rfl ?_ | refine AX.sk rfl rfl ?_) | ((with_reducible refine D.move ?_); refine L.mv rfl rfl rfl ?_) | ((with_reducible refine D.fieldAddr ?_); first | refine L.fab rfl rfl rfl rfl rfl ?_ | refine AX.sk rfl rfl ?_ | ((fail_if_success refine AX.wt rfl ?_); refine AX.gs rfl rfl (fun _ => trivial) (fun h => ?_) (fun h => ?_))) | ((with_reducible refine D.assign ?_); refine L.asg rfl rfl rfl ?_) | ((with_reducible refine D.bin ?_); first | refine L.bn rfl rfl rfl rfl rfl ?_ | refine AX.sk rfl rfl ?_) | ((with_reducible refine D.call ?_); first | refine L.lnt rfl rfl rfl rfl ?_ | refine L.c2 (hty) rfl rfl rfl rfl ?_ | refine AX.sk rfl rfl ?_) | ((with_reducible refine D.box ?_); refine L.bx rfl rfl rfl rfl ?_) | ((with_reducible refine D.not ?_); first | refine L.nt rfl rfl rfl ?_ | refine AX.sk rfl rfl ?_) | ((with_reducible refine D.pick ?_); refine L.pk rfl rfl rfl rfl ?_) | ((with_reducible refine D.aw ?_); first | refine K.sq (AW.regL ?_) | refine K.sq (K.sq ?_) | refine AW.regL ?_ | refine AW.condT rfl ?_ | refine AW.condS rfl (fun h => ?_) (fun h => ?_) | refine AW.skip ?_ | refine AW.ret ?_) | with_reducible refine K.tN ?_ | with_reducible refine K.tR ?_ | with_reducible refine K.r1 (by with_unfolding_all rfl) (by with_unfolding_all rfl) ?_)
  · have : ¬ x = y := by rw [heq]; simp_all
    simp [this, tupV, constV, V.wk, V.wks]
  · have : ¬ x = y := by rw [heq]; simp_all
    simp [this, tupV, constV, V.wk, V.wks]
  · have : ¬ x = y := by rintro rfl; simp at h
    simp [this, tupV, constV, V.wk, V.wks]
  · have : ¬ x = y := by rintro rfl; simp at h
    simp [this, tupV, constV, V.wk, V.wks]
  · rename_i h1 h2 h3
    simp at h h1 h2 h3
    have hl : x.args.length = y.args.length := by omega
    have hl2 : x.terms.length = y.terms.length := by omega
    refine AW.range x.terms.length (fun m => ∀ j (hj : j < x.terms.length), j < m → x.terms[j] = y.terms[j]'(by omega))
      (fun m => ([(2, .ptr 0 0), (3, .ptr 1 0), (41, .s .tm x.terms), (42, .i x.terms.length), (43, .i m)], ⟨2, [(0, .var x.view), (1, .var y.view)]⟩))
      (by omega) (fun m => rfl) (fun m => rfl) rfl (by intro j hj h; omega) (Weak.mk [some 0, some 1] _ _ _ rfl rfl rfl rfl (by (repeat' (first | exact trivial | refine And.intro ?_ ?_ | refine ⟨_, rfl, _, rfl, ?_⟩ | exact VLe.refl _)); done) (by (repeat' (first | exact trivial | refine And.intro ?_ ?_ | refine ⟨_, rfl, _, rfl, _, rfl, ?_⟩ | exact VLe.refl _)); done)) ?_ ?_
    · intro m hm hP
      have hm' : m < y.terms.length := by omega
      have hs2 := lsum_mem Tm.full (List.getElem_mem hm)
      have hc := sameTm2_c _ x.terms[m] y.terms[m] (Nat.le_refl _) (by omega)
      repeat' (first | ((with_reducible refine D.nil ?_); first | refine AX.nilL ?_ | refine AX.nilD (by kernel_rfl) ?_) | ((with_reducible refine D.load ?_); first | refine L.ldb rfl rfl rfl rfl rfl rfl ?_ | refine L.lda rfl rfl rfl rfl rfl ?_) | ((with_reducible refine D.move ?_); refine L.mv rfl rfl rfl ?_) | ((with_reducible refine D.fieldAddr ?_); refine L.fab rfl rfl rfl rfl rfl ?_) | ((with_reducible refine D.assign ?_); refine L.asg rfl rfl rfl ?_) | ((with_reducible refine D.call ?_); refine L.c2 (hc) rfl rfl rfl rfl ?_) | ((with_reducible refine D.alloc ?_); refine L.al rfl rfl rfl ?_) | ((with_reducible refine D.store ?_); refine L.st rfl rfl rfl rfl rfl rfl rfl rfl rfl ?_) | ((with_reducible refine D.indexAddr ?_); refine L.ixt _ rfl rfl rfl rfl rfl rfl rfl (by assumption) ?_) | ((with_reducible refine D.not ?_); refine L.nt rfl rfl rfl ?_) | ((with_reducible refine D.aw ?_); first | refine K.sq (AW.regL ?_) | refine K.sq (AW.regD mixed (by kernel_rfl) ?_) | refine AW.condS rfl (fun h => ?_) (fun h => ?_) | refine AW.skip ?_ | refine AW.ret ?_) | with_reducible refine K.tN ?_ | with_reducible refine K.bN ?_ | with_reducible refine K.tR ?_ | with_reducible refine K.bR ?_ | with_reducible refine K.gR ?_ | with_reducible refine K.r1 (by with_unfolding_all rfl) (by with_unfolding_all rfl) ?_)
      · have : ¬ x = y := by rw [heq]; exact fun hc => list_ne hm hm' (by simpa using h) hc.2.2.1
        simp [this, tupV, constV, V.wk, V.wks]
      · exact ⟨rfl, step2 hl2 hm hP (by simpa using h), (Weak.mk [some 0, some 1] _ _ _ rfl rfl rfl rfl (by (repeat' (first | exact trivial | refine And.intro ?_ ?_ | refine ⟨_, rfl, _, rfl, ?_⟩ | exact VLe.refl _)); done) (by (repeat' (first | exact trivial | refine And.intro ?_ ?_ | refine ⟨_, rfl, _, rfl, _, rfl, ?_⟩ | exact VLe.refl _)); done))⟩
    · intro hP2
      have hterms := list_eq hl2 hP2
      repeat' (first | ((with_reducible refine D.nil ?_); refine AX.nilL ?_) | ((with_reducible refine D.load ?_); refine L.ldb rfl rfl rfl rfl rfl rfl ?_) | ((with_reducible refine D.move ?_); refine L.mv rfl rfl rfl ?_) | ((with_reducible refine D.fieldAddr ?_); refine L.fab rfl rfl rfl rfl rfl ?_) | ((with_reducible refine D.call ?_); refine L.lnt rfl rfl rfl rfl ?_) | ((with_reducible refine D.aw ?_); first | refine K.sq (K.sq ?_) | refine AW.regL ?_) | with_reducible refine K.tN ?_)
      refine AW.range x.args.length (fun m => ∀ j (hj : j < x.args.length), j < m → x.args[j] = y.args[j]'(by omega))
        (fun m => ([(2, .ptr 0 0), (3, .ptr 1 0), (58, .s .fm x.args), (59, .i x.args.length), (60, .i m)], ⟨2, [(0, .var x.view), (1, .var y.view)]⟩))
        (by omega) (fun m => rfl) (fun m => rfl) rfl (by intro j hj h; omega) (Weak.mk [some 0, some 1] _ _ _ rfl rfl rfl rfl (by (repeat' (first | exact trivial | refine And.intro ?_ ?_ | refine ⟨_, rfl, _, rfl, ?_⟩ | exact VLe.refl _)); done) (by (repeat' (first | exact trivial | refine And.intro ?_ ?_ | refine ⟨_, rfl, _, rfl, _, rfl, ?_⟩ | exact VLe.refl _)); done)) ?_ ?_
      · intro m hm hP
        have hm' : m < y.args.length := by omega
        have hs2 := lsum_mem Fm.full (List.getElem_mem hm)
        repeat' (first | ((with_reducible refine D.nil ?_); first | refine AX.nilL ?_ | refine AX.nilD (by kernel_rfl) ?_) | ((with_reducible refine D.load ?_); first | refine L.ldb rfl rfl rfl rfl rfl rfl ?_ | refine L.lda rfl rfl rfl rfl rfl ?_) | ((with_reducible refine D.move ?_); refine L.mv rfl rfl rfl ?_) | ((with_reducible refine D.fieldAddr ?_); refine L.fab rfl rfl rfl rfl rfl ?_) | ((with_reducible refine D.assign ?_); refine L.asg rfl rfl rfl ?_) | ((with_reducible refine D.call ?_); refine L.c2 (ih _ _ ?_ ?_) rfl rfl rfl rfl ?_) | ((with_reducible refine D.alloc ?_); refine L.al rfl rfl rfl ?_) | ((with_reducible refine D.store ?_); refine L.st rfl rfl rfl rfl rfl rfl rfl rfl rfl ?_) | ((with_reducible refine D.indexAddr ?_); refine L.ixt _ rfl rfl rfl rfl rfl rfl rfl (by assumption) ?_) | ((with_reducible refine D.not ?_); refine L.nt rfl rfl rfl ?_) | ((with_reducible refine D.aw ?_); first | refine K.sq (AW.regL ?_) | refine K.sq (AW.regD mixed (by kernel_rfl) ?_) | refine AW.condS rfl (fun h => ?_) (fun h => ?_) | refine AW.skip ?_ | refine AW.ret ?_) | with_reducible refine K.tN ?_ | with_reducible refine K.bN ?_ | with_reducible refine K.tR ?_ | with_reducible refine K.bR ?_ | with_reducible refine K.gR ?_ | with_reducible refine K.r1 (by with_unfolding_all rfl) (by with_unfolding_all rfl) ?_ | ((with_reducible show @LE.le Nat _ _ _); omega) | ((with_reducible show @LT.lt Nat _ _ _); omega))
        · have : ¬ x = y := by rw [heq]; exact fun hc => list_ne hm hm' (by simpa using h) hc.2.2.2
          simp [this, tupV, constV, V.wk, V.wks]
        · exact ⟨rfl, step2 hl hm hP (by simpa using h), (Weak.mk [some 0, some 1] _ _ _ rfl rfl rfl rfl (by (repeat' (first | exact trivial | refine And.intro ?_ ?_ | refine ⟨_, rfl, _, rfl, ?_⟩ | exact VLe.refl _)); done) (by (repeat' (first | exact trivial | refine And.intro ?_ ?_ | refine ⟨_, rfl, _, rfl, _, rfl, ?_⟩ | exact VLe.refl _)); done))⟩
      · intro hP
        have : x = y := heq.2 ⟨h1, h2, hterms, list_eq hl hP⟩
        repeat' (first | ((with_reducible refine D.nil ?_); refine AX.nilL ?_) | ((with_reducible refine D.assign ?_); refine L.asg rfl rfl rfl ?_) | ((with_reducible refine D.aw ?_); first | refine K.sq (AW.regL ?_) | refine AW.ret ?_) | with_reducible refine K.tN ?_ | with_reducible refine K.r1 (by with_unfolding_all rfl) (by with_unfolding_all rfl) ?_)
        simp [this, tupV, constV, V.wk, V.wks]
theorem fsame_c (x y : Fm) (h : x.full < 1099511627776) : PC E 50 [.agg x.view, .agg y.view] (.bool (decide (x = y))) := by
  have h1 := sameForm_c _ x y (Nat.le_refl _) h
  refine AC.mk Tryz.func50 rfl rfl rfl rfl rfl (Nat.le_of_ble_eq_true rfl) ?_
  repeat' (first | ((with_reducible refine D.nil ?_); refine AX.nilL ?_) | ((with_reducible refine D.load ?_); refine L.ldb rfl rfl rfl rfl rfl rfl ?_) | ((with_reducible refine D.assign ?_); refine L.asg rfl rfl rfl ?_) | ((with_reducible refine D.call ?_); refine L.c2 (h1) rfl rfl rfl rfl ?_) | ((with_reducible refine D.box ?_); refine L.bx rfl rfl rfl rfl ?_) | ((with_reducible refine D.aw ?_); first | refine K.sq (AW.regL ?_) | refine AW.ret ?_) | with_reducible refine K.tN ?_ | with_reducible refine K.r1 (by with_unfolding_all rfl) (by with_unfolding_all rfl) ?_)
  simp [tupV, V.wk, V.wks, constV, Ty.view, Tm.view]
end Go.Ab
namespace Go.Ab
open Go Go.Proofs
set_option maxRecDepth 100000
set_option maxHeartbeats 4000000
set_option linter.all false
theorem rbelow_c (t : Tm) : PC E 109 [.agg t.view] (.i (up t.kind 0)) := by
  refine AC.mk Tryz.func109 rfl rfl rfl rfl rfl (Nat.le_of_ble_eq_true rfl) ?_
  repeat' (first | ((with_reducible refine D.nil ?_); refine AX.nilL ?_) | ((with_reducible refine D.load ?_); refine L.ldb rfl rfl rfl rfl rfl rfl ?_) | ((with_reducible refine D.fieldAddr ?_); refine L.fab rfl rfl rfl rfl rfl ?_) | ((with_reducible refine D.assign ?_); refine L.asg rfl rfl rfl ?_) | ((with_reducible refine D.bin ?_); refine L.bn rfl rfl rfl rfl rfl ?_) | ((with_reducible refine D.box ?_); refine L.bx rfl rfl rfl rfl ?_) | ((with_reducible refine D.aw ?_); first | refine K.sq (AW.regL ?_) | refine K.sq (K.sq ?_) | refine AW.regL ?_ | refine AW.condS rfl (fun h => ?_) (fun h => ?_) | refine AW.skip ?_ | refine AW.ret ?_) | with_reducible refine K.tN ?_ | with_reducible refine K.tR ?_ | with_reducible refine K.r1 (by with_unfolding_all rfl) (by with_unfolding_all rfl) ?_)
  · have e : up t.kind 0 = 1 := by simp only [beq_iff_eq] at h; rw [h]; rfl
    rw [e]; rfl
  · have e : up t.kind 0 = 0 := by simp only [beq_eq_false_iff_ne, ne_eq] at h; exact if_neg h
    rw [e]; rfl
theorem up_bd (k b : Int) : b ≤ up k b ∧ up k b ≤ b + 1 := by simp only [up]; split <;> omega
theorem up_plus (k b : Int) : b + up k 0 = up k b := by simp only [up]; split <;> omega
theorem rhas_c : ∀ (n : Nat) (t : Tm) (at_ : Int), t.full ≤ n → n < 274877906944 → -274877906944 ≤ at_ → at_ + n < 549755813888 → t.shape = true → PC E 51 [.agg t.view, .i at_] (.bool (decide (timesT at_ t ≠ 0))) := by
  intro n
  induction n with
  | zero => intro t at_ h; have := t.full_pos; omega
  | succ n ih =>
  intro t at_ hsz hn h1 h2 hs
  have hsz' := Tm.full_eq t
  have hlen := lsum_len Tm.full Tm.full_pos t.args
  have he := timesT_eq at_ t
  have hup := up_bd t.kind at_
  have hpl := up_plus t.kind at_
  have hb := rbelow_c t
  by_cases hv : t.kind = 1 ∧ t.index = at_
  · rw [if_pos hv] at he
    rw [he]
    refine AC.mk Tryz.func51 rfl rfl rfl rfl rfl (Nat.le_of_ble_eq_true rfl) ?_
    repeat' (first | ((with_reducible refine D.nil ?_); refine AX.nilL ?_) | ((with_reducible refine D.load ?_); first | refine L.ldb rfl rfl rfl rfl rfl rfl ?_ | refine AX.sk rfl rfl ?_) | ((with_reducible refine D.move ?_); first | refine L.mv rfl rfl rfl ?_ | refine AX.sk rfl rfl ?_) | ((with_reducible refine D.fieldAddr ?_); first | refine L.fab rfl rfl rfl rfl rfl ?_ | refine AX.sk rfl rfl ?_ | ((fail_if_success refine AX.wt rfl ?_); refine AX.gs rfl rfl (fun _ => trivial) (fun h => ?_) (fun h => ?_))) | ((with_reducible refine D.assign ?_); refine L.asg rfl rfl rfl ?_) | ((with_reducible refine D.bin ?_); first | refine L.bn rfl rfl rfl rfl rfl ?_ | refine AX.sk rfl rfl ?_) | ((with_reducible refine D.call ?_); refine L.lnt rfl rfl rfl rfl ?_) | ((with_reducible refine D.box ?_); refine L.bx rfl rfl rfl rfl ?_) | ((with_reducible refine D.pick ?_); refine L.pk rfl rfl rfl rfl ?_) | ((with_reducible refine D.aw ?_); (fail_if_success with_reducible refine D.stopR (id := 4) ?_); (fail_if_success with_reducible refine D.stopS (id := 4) ?_); first | refine K.sq (AW.regL ?_) | refine K.sq (K.sq ?_) | refine AW.regL ?_ | refine AW.condF rfl ?_ | refine AW.condS rfl (fun h => ?_) (fun h => ?_) | refine AW.skip ?_ | refine AW.ret ?_) | with_reducible refine K.tN ?_ | with_reducible refine K.tR ?_ | with_reducible refine K.r1 (by with_unfolding_all rfl) (by with_unfolding_all rfl) ?_)
    all_goals first
      | rfl
      | (exfalso; simp [hv.1, hv.2] at *; done)
      | (exfalso; simp_all; done)
  rw [if_neg hv] at he
  refine AC.mk Tryz.func51 rfl rfl rfl rfl rfl (Nat.le_of_ble_eq_true rfl) ?_
  repeat' (first | ((with_reducible refine D.nil ?_); refine AX.nilL ?_) | ((with_reducible refine D.load ?_); first | refine L.ldb rfl rfl rfl rfl rfl rfl ?_ | refine AX.sk rfl rfl ?_) | ((with_reducible refine D.move ?_); first | refine L.mv rfl rfl rfl ?_ | refine AX.sk rfl rfl ?_) | ((with_reducible refine D.fieldAddr ?_); first | refine L.fab rfl rfl rfl rfl rfl ?_ | refine AX.sk rfl rfl ?_ | ((fail_if_success refine AX.wt rfl ?_); refine AX.gs rfl rfl (fun _ => trivial) (fun h => ?_) (fun h => ?_))) | ((with_reducible refine D.assign ?_); refine L.asg rfl rfl rfl ?_) | ((with_reducible refine D.bin ?_); first | refine L.bn rfl rfl rfl rfl rfl ?_ | refine AX.sk rfl rfl ?_) | ((with_reducible refine D.call ?_); refine L.lnt rfl rfl rfl rfl ?_) | ((with_reducible refine D.box ?_); refine L.bx rfl rfl rfl rfl ?_) | ((with_reducible refine D.pick ?_); refine L.pk rfl rfl rfl rfl ?_) | ((with_reducible refine D.aw ?_); first | refine K.sq (AW.regL ?_) | refine K.sq (K.sq ?_) | refine AW.regL ?_ | refine AW.condF rfl ?_ | refine AW.condS rfl (fun h => ?_) (fun h => ?_) | refine AW.skip ?_ | refine AW.ret ?_) | with_reducible refine K.tN ?_ | with_reducible refine K.tR ?_ | with_reducible refine K.r1 (by with_unfolding_all rfl) (by with_unfolding_all rfl) ?_)
  all_goals first
    | (exfalso; simp_all; done)
    | skip
  all_goals
    refine AW.range t.args.length (fun m => ∀ j (hj : j < t.args.length), j < m → timesT (up t.kind at_) t.args[j] = 0)
      (fun m => ([(1, .i at_), (2, .ptr 0 0), (17, .s .tm t.args), (18, .i t.args.length), (19, .i m)], ⟨1, [(0, .var t.view)]⟩))
      (by omega) (fun m => rfl) (fun m => rfl) rfl (fun j hj h => by omega) (Weak.mk [some 0] _ _ _ rfl rfl rfl rfl (by (repeat' (first | exact trivial | refine And.intro ?_ ?_ | refine ⟨_, rfl, _, rfl, ?_⟩ | exact VLe.refl _)); done) (by (repeat' (first | exact trivial | refine And.intro ?_ ?_ | refine ⟨_, rfl, _, rfl, _, rfl, ?_⟩ | exact VLe.refl _)); done)) ?_ ?_
    · intro m hm hP
      have hs2 := lsum_mem Tm.full (List.getElem_mem hm)
      have hc := ih t.args[m] (up t.kind at_) (by omega) (by omega) (by omega) (by omega) (shape_args hs _ (List.getElem_mem hm))
      rw [← hpl] at hc
      rw [← hpl] at hP he
      repeat' (first | ((with_reducible refine D.nil ?_); first | refine AX.nilL ?_ | refine AX.nilD (by kernel_rfl) ?_) | ((with_reducible refine D.load ?_); first | refine L.ldb rfl rfl rfl rfl rfl rfl ?_ | refine L.lda rfl rfl rfl rfl rfl ?_) | ((with_reducible refine D.move ?_); refine L.mv rfl rfl rfl ?_) | ((with_reducible refine D.assign ?_); refine L.asg rfl rfl rfl ?_) | ((with_reducible refine D.bin ?_); refine L.ad rfl rfl rfl rfl (by omega) ?_) | ((with_reducible refine D.call ?_); first | refine L.c2 (hb) rfl rfl rfl rfl ?_ | refine L.c2 (hc) rfl rfl rfl rfl ?_) | ((with_reducible refine D.alloc ?_); refine L.al rfl rfl rfl ?_) | ((with_reducible refine D.store ?_); refine L.st rfl rfl rfl rfl rfl rfl rfl rfl rfl ?_) | ((with_reducible refine D.indexAddr ?_); refine L.ixt _ rfl rfl rfl rfl rfl rfl rfl (by assumption) ?_) | ((with_reducible refine D.aw ?_); first | refine K.sq (AW.regL ?_) | refine K.sq (AW.regD mixed (by kernel_rfl) ?_) | refine AW.condS rfl (fun h => ?_) (fun h => ?_) | refine AW.skip ?_ | refine AW.ret ?_) | with_reducible refine K.tN ?_ | with_reducible refine K.bN ?_ | with_reducible refine K.tR ?_ | with_reducible refine K.bR ?_ | with_reducible refine K.gR ?_ | with_reducible refine K.r1 (by with_unfolding_all rfl) (by with_unfolding_all rfl) ?_)
      · have hx : timesT (at_ + up t.kind 0) t.args[m] ≠ 0 := by simpa using h
        rw [he, decide_eq_true (sum_pos hm hx)]; rfl
      · have hx : timesT (at_ + up t.kind 0) t.args[m] = 0 := by simpa using h
        exact ⟨rfl, by rw [← hpl]; exact all_step (p := fun t' => timesT (at_ + up t.kind 0) t' = 0) hm hP hx, (Weak.mk [some 0] _ _ _ rfl rfl rfl rfl (by (repeat' (first | exact trivial | refine And.intro ?_ ?_ | refine ⟨_, rfl, _, rfl, ?_⟩ | exact VLe.refl _)); done) (by (repeat' (first | exact trivial | refine And.intro ?_ ?_ | refine ⟨_, rfl, _, rfl, _, rfl, ?_⟩ | exact VLe.refl _)); done))⟩
    · intro hP
      rw [he, sum_zero fun j hj => hP j hj hj]
      repeat' (first | ((with_reducible refine D.nil ?_); refine AX.nilL ?_) | ((with_reducible refine D.assign ?_); refine L.asg rfl rfl rfl ?_) | ((with_reducible refine D.aw ?_); first | refine K.sq (AW.regL ?_) | refine AW.ret ?_) | with_reducible refine K.tN ?_ | with_reducible refine K.r1 (by with_unfolding_all rfl) (by with_unfolding_all rfl) ?_)
      rfl
end Go.Ab
namespace Go.Ab
open Go Go.Proofs
set_option maxRecDepth 100000
set_option maxHeartbeats 4000000
set_option linter.all false
theorem rquant_c (k : Int) : PC E 110 [.i k] (.bool (quantK k)) := by
  have e : quantK k = decide (k = 4 ∨ k = 5 ∨ k = 6 ∨ k = 7) := by rw [Bool.eq_iff_iff, quantK_iff, decide_eq_true_iff]; omega
  rw [e]
  refine AC.mk Tryz.func110 rfl rfl rfl rfl rfl (Nat.le_of_ble_eq_true rfl) ?_
  repeat' (first | ((with_reducible refine D.nil ?_); refine AX.nilL ?_) | ((with_reducible refine D.move ?_); first | refine L.mv rfl rfl rfl ?_ | refine AX.sk rfl rfl ?_ | ((fail_if_success refine AX.wt rfl ?_); refine AX.gs rfl rfl (fun _ => trivial) (fun h => ?_) (fun h => ?_))) | ((with_reducible refine D.assign ?_); refine L.asg rfl rfl rfl ?_) | ((with_reducible refine D.bin ?_); first | refine L.bn rfl rfl rfl rfl rfl ?_ | refine AX.sk rfl rfl ?_) | ((with_reducible refine D.pick ?_); refine L.pk rfl rfl rfl rfl ?_) | ((with_reducible refine D.aw ?_); first | refine K.sq (AW.regL ?_) | refine AW.ret ?_) | with_reducible refine K.tN ?_ | with_reducible refine K.r1 (by with_unfolding_all rfl) (by with_unfolding_all rfl) ?_)
  all_goals (simp_all [tupV, V.wk, V.wks, constV]; try (first | omega | (rw [Bool.eq_iff_iff]; simp)))
theorem rfbelow_c (f : Fm) : PC E 52 [.agg f.view] (.i (upF f.kind 0)) := by
  have h1 := rquant_c f.kind
  cases hq : quantK f.kind with
  | true =>
    have e : upF f.kind 0 = 1 := by simp [upF, hq]
    rw [hq] at h1
    rw [e]
    refine AC.mk Tryz.func52 rfl rfl rfl rfl rfl (Nat.le_of_ble_eq_true rfl) ?_
    repeat' (first | ((with_reducible refine D.nil ?_); refine AX.nilL ?_) | ((with_reducible refine D.load ?_); refine L.ldb rfl rfl rfl rfl rfl rfl ?_) | ((with_reducible refine D.fieldAddr ?_); refine L.fab rfl rfl rfl rfl rfl ?_) | ((with_reducible refine D.assign ?_); refine L.asg rfl rfl rfl ?_) | ((with_reducible refine D.call ?_); refine L.c2 (h1) rfl rfl rfl rfl ?_) | ((with_reducible refine D.box ?_); refine L.bx rfl rfl rfl rfl ?_) | ((with_reducible refine D.aw ?_); first | refine K.sq (AW.regL ?_) | refine K.sq (K.sq ?_) | refine AW.regL ?_ | refine AW.condT rfl ?_ | refine AW.ret ?_) | with_reducible refine K.tN ?_ | with_reducible refine K.tR ?_ | with_reducible refine K.r1 (by with_unfolding_all rfl) (by with_unfolding_all rfl) ?_)
    rfl
  | false =>
    have e : upF f.kind 0 = 0 := by simp [upF, hq]
    rw [hq] at h1
    rw [e]
    refine AC.mk Tryz.func52 rfl rfl rfl rfl rfl (Nat.le_of_ble_eq_true rfl) ?_
    repeat' (first | ((with_reducible refine D.nil ?_); refine AX.nilL ?_) | ((with_reducible refine D.load ?_); refine L.ldb rfl rfl rfl rfl rfl rfl ?_) | ((with_reducible refine D.fieldAddr ?_); refine L.fab rfl rfl rfl rfl rfl ?_) | ((with_reducible refine D.assign ?_); refine L.asg rfl rfl rfl ?_) | ((with_reducible refine D.call ?_); refine L.c2 (h1) rfl rfl rfl rfl ?_) | ((with_reducible refine D.box ?_); refine L.bx rfl rfl rfl rfl ?_) | ((with_reducible refine D.aw ?_); first | refine K.sq (AW.regL ?_) | refine K.sq (K.sq ?_) | refine AW.regL ?_ | refine AW.condF rfl ?_ | refine AW.skip ?_ | refine AW.ret ?_) | with_reducible refine K.tN ?_ | with_reducible refine K.r1 (by with_unfolding_all rfl) (by with_unfolding_all rfl) ?_)
    rfl
theorem upF_plus (k b : Int) : b + upF k 0 = upF k b := by simp only [upF]; split <;> omega
theorem tyok_err (t : Ty) : t.ok = (t.err == 0) := Ty.ok_err t
theorem fshapeEq {f : Fm} (hk : f.kind = 1) : f.shape = (decide (f.args.length = 0) && f.ty.isNo && decide (f.terms.length = 2) && f.terms.all Tm.shape) := by
  rw [Fm.shape_eq]
  simp only [Fm.head, hk, if_true]
  by_cases h : f.args.length = 0
  · have ha : f.args = [] := List.length_eq_zero_iff.1 h
    rw [ha]
    cases f.ty.isNo <;> simp
    rw [Bool.eq_iff_iff]; simp
  · simp [h]
theorem fshapeTwo {f : Fm} (hk : f.kind = 2 ∨ f.kind = 3) : f.shape = (decide (f.terms.length = 0) && f.ty.isNo && decide (f.args.length = 2) && f.args.all Fm.shape) := by
  rw [Fm.shape_eq]
  have h1 : ¬ f.kind = 1 := by omega
  simp only [Fm.head, if_neg h1, if_pos hk]
  by_cases h : f.terms.length = 0
  · have ha : f.terms = [] := List.length_eq_zero_iff.1 h
    rw [ha]
    cases f.ty.isNo <;> simp
    rw [Bool.eq_iff_iff]; simp
  · simp [h]
theorem fshapeQu {f : Fm} (hk : quantK f.kind = true) : f.shape = (decide (f.terms.length = 0) && f.ty.ok && decide (f.args.length = 1) && f.args.all Fm.shape) := by
  rw [Fm.shape_eq]
  rw [quantK_iff] at hk
  have h1 : ¬ f.kind = 1 := by omega
  have h2 : ¬ (f.kind = 2 ∨ f.kind = 3) := by omega
  have h3 : f.kind = 4 ∨ f.kind = 5 ∨ f.kind = 6 ∨ f.kind = 7 := by omega
  simp only [Fm.head, if_neg h1, if_neg h2, if_pos h3]
  by_cases h : f.terms.length = 0
  · have ha : f.terms = [] := List.length_eq_zero_iff.1 h
    rw [ha]
    cases f.ty.ok <;> simp
    rw [Bool.eq_iff_iff]; simp
  · simp [h]
theorem fshapeNo {f : Fm} (h1 : f.kind ≠ 1) (h2 : ¬ (f.kind = 2 ∨ f.kind = 3)) (h3 : quantK f.kind = false) : f.shape = false := by
  rw [Fm.shape_eq]
  have h4 : ¬ (f.kind = 4 ∨ f.kind = 5 ∨ f.kind = 6 ∨ f.kind = 7) := by
    intro hc
    have : quantK f.kind = true := by rw [quantK_iff]; omega
    rw [h3] at this; cases this
  simp only [Fm.head, if_neg h1, if_neg h2, if_neg h4, Bool.false_and]
theorem fshapeR_c : ∀ (n : Nat) (f : Fm), f.full ≤ n → n < 549755813888 → PC E 114 [.agg f.view] (.bool f.shape) := by
  intro n
  induction n with
  | zero => intro f h; have := f.full_pos; omega
  | succ n ih =>
  intro f hsz hn
  have hsz' := f.full_eq
  have hlen := lsum_len Fm.full Fm.full_pos f.args
  have hlen2 := lsum_len Tm.full Tm.full_pos f.terms
  have hz := zeroTy_c f.ty
  have hty := checkTyR_c f.ty (by omega)
  have hq := rquant_c f.kind
  have ht : ∀ x ∈ f.terms, PC E 127 [.agg x.view] (.bool x.shape) := fun x hx => shapeTm_c _ x (Nat.le_refl _) (by have := lsum_mem Tm.full hx; omega)
  have ha : ∀ x ∈ f.args, PC E 114 [.agg x.view] (.bool x.shape) := fun x hx => ih x (by have := lsum_mem Fm.full hx; omega) (by omega)
  clear ih
  by_cases k1 : f.kind = 1
  · have e := fshapeEq k1
    obtain ⟨k, ty, ts, fs⟩ := f
    simp only [Fm.kind_mk, Fm.ty_mk, Fm.terms_mk, Fm.args_mk] at *
    subst k1
    by_cases hl : ts.length = 2
    · obtain ⟨a, b, rfl⟩ := len_2 hl
      have t1 := ht a (by simp)
      have t2 := ht b (by simp)
      rw [e]
      refine AC.mk Tryz.func114 rfl rfl rfl rfl rfl (Nat.le_of_ble_eq_true rfl) ?_
      repeat' (first | ((with_reducible refine D.nil ?_); refine AX.nilL ?_) | ((with_reducible refine D.load ?_); first | refine L.ldb rfl rfl rfl rfl rfl rfl ?_ | refine L.lda rfl rfl rfl rfl rfl ?_ | refine AX.sk rfl rfl ?_) | ((with_reducible refine D.move ?_); refine L.mv rfl rfl rfl ?_) | ((with_reducible refine D.fieldAddr ?_); first | refine L.fab rfl rfl rfl rfl rfl ?_ | refine AX.sk rfl rfl ?_ | ((fail_if_success refine AX.wt rfl ?_); refine AX.gs rfl rfl (fun _ => trivial) (fun h => ?_) (fun h => ?_))) | ((with_reducible refine D.assign ?_); refine L.asg rfl rfl rfl ?_) | ((with_reducible refine D.bin ?_); first | refine L.bn rfl rfl rfl rfl rfl ?_ | refine AX.sk rfl rfl ?_) | ((with_reducible refine D.call ?_); first | refine L.lnt rfl rfl rfl rfl ?_ | refine L.c2 (hz) rfl rfl rfl rfl ?_ | refine L.c2 (t1) rfl rfl rfl rfl ?_ | refine L.c2 (t2) rfl rfl rfl rfl ?_ | refine AX.sk rfl rfl ?_) | ((with_reducible refine D.box ?_); refine L.bx rfl rfl rfl rfl ?_) | ((with_reducible refine D.indexAddr ?_); first | refine L.ixt _ rfl rfl rfl rfl rfl rfl rfl (by (simp; done)) ?_ | refine AX.sk rfl rfl ?_) | ((with_reducible refine D.pick ?_); refine L.pk rfl rfl rfl rfl ?_) | ((with_reducible refine D.aw ?_); first | ((with_reducible refine D.sblk ?_); refine K.sq (AW.block ?_)) | refine K.sq (AW.regL ?_) | refine AW.condT rfl ?_ | refine AW.ret ?_) | with_reducible refine K.tN ?_ | with_reducible refine K.tR ?_ | with_reducible refine K.bR ?_ | with_reducible refine K.r1 (by with_unfolding_all rfl) (by with_unfolding_all rfl) ?_)
      all_goals (simp at *; simp_all [tupV, V.wk, V.wks, constV]; done)
    · have e2 : (Fm.mk 1 ty ts fs).shape = false := by rw [e]; simp [hl]
      rw [e2]
      refine AC.mk Tryz.func114 rfl rfl rfl rfl rfl (Nat.le_of_ble_eq_true rfl) ?_
      repeat' (first | ((with_reducible refine D.nil ?_); refine AX.nilL ?_) | ((with_reducible refine D.load ?_); first | refine L.ldb rfl rfl rfl rfl rfl rfl ?_ | refine L.lda rfl rfl rfl rfl rfl ?_ | refine AX.sk rfl rfl ?_) | ((with_reducible refine D.move ?_); refine L.mv rfl rfl rfl ?_) | ((with_reducible refine D.fieldAddr ?_); first | refine L.fab rfl rfl rfl rfl rfl ?_ | refine AX.sk rfl rfl ?_ | ((fail_if_success refine AX.wt rfl ?_); refine AX.gs rfl rfl (fun _ => trivial) (fun h => ?_) (fun h => ?_))) | ((with_reducible refine D.assign ?_); refine L.asg rfl rfl rfl ?_) | ((with_reducible refine D.bin ?_); first | refine L.bn rfl rfl rfl rfl rfl ?_ | refine AX.sk rfl rfl ?_) | ((with_reducible refine D.call ?_); first | refine L.lnt rfl rfl rfl rfl ?_ | refine L.c2 (hz) rfl rfl rfl rfl ?_ | refine AX.sk rfl rfl ?_) | ((with_reducible refine D.box ?_); refine L.bx rfl rfl rfl rfl ?_) | ((with_reducible refine D.indexAddr ?_); first | refine L.ixt _ rfl rfl rfl rfl rfl rfl rfl (by (simp at *; omega)) ?_ | refine AX.sk rfl rfl ?_) | ((with_reducible refine D.pick ?_); refine L.pk rfl rfl rfl rfl ?_) | ((with_reducible refine D.aw ?_); first | ((with_reducible refine D.sblk ?_); refine K.sq (AW.block ?_)) | refine K.sq (AW.regL ?_) | refine AW.condT rfl ?_ | refine AW.ret ?_) | with_reducible refine K.tN ?_ | with_reducible refine K.tR ?_ | with_reducible refine K.bR ?_ | with_reducible refine K.r1 (by with_unfolding_all rfl) (by with_unfolding_all rfl) ?_)
      all_goals first
        | (simp at *; simp_all [tupV, V.wk, V.wks, constV]; done)
        | (exfalso; simp at *; omega)
  by_cases k2 : f.kind = 2 ∨ f.kind = 3
  · have e := fshapeTwo k2
    obtain ⟨k, ty, ts, fs⟩ := f
    simp only [Fm.kind_mk, Fm.ty_mk, Fm.terms_mk, Fm.args_mk] at *
    by_cases hl : fs.length = 2
    · obtain ⟨a, b, rfl⟩ := len_2 hl
      have t1 := ha a (by simp)
      have t2 := ha b (by simp)
      rw [e]
      rcases k2 with rfl | rfl
      all_goals
        refine AC.mk Tryz.func114 rfl rfl rfl rfl rfl (Nat.le_of_ble_eq_true rfl) ?_
        repeat' (first | ((with_reducible refine D.nil ?_); refine AX.nilL ?_) | ((with_reducible refine D.load ?_); first | refine L.ldb rfl rfl rfl rfl rfl rfl ?_ | refine L.lda rfl rfl rfl rfl rfl ?_ | refine AX.sk rfl rfl ?_) | ((with_reducible refine D.move ?_); refine L.mv rfl rfl rfl ?_) | ((with_reducible refine D.fieldAddr ?_); first | refine L.fab rfl rfl rfl rfl rfl ?_ | refine AX.sk rfl rfl ?_ | ((fail_if_success refine AX.wt rfl ?_); refine AX.gs rfl rfl (fun _ => trivial) (fun h => ?_) (fun h => ?_))) | ((with_reducible refine D.assign ?_); refine L.asg rfl rfl rfl ?_) | ((with_reducible refine D.bin ?_); first | refine L.bn rfl rfl rfl rfl rfl ?_ | refine AX.sk rfl rfl ?_) | ((with_reducible refine D.call ?_); first | refine L.lnt rfl rfl rfl rfl ?_ | refine L.c2 (hz) rfl rfl rfl rfl ?_ | refine L.c2 (t1) rfl rfl rfl rfl ?_ | refine L.c2 (t2) rfl rfl rfl rfl ?_ | refine AX.sk rfl rfl ?_) | ((with_reducible refine D.box ?_); refine L.bx rfl rfl rfl rfl ?_) | ((with_reducible refine D.indexAddr ?_); first | refine L.ixt _ rfl rfl rfl rfl rfl rfl rfl (by (simp; done)) ?_ | refine AX.sk rfl rfl ?_) | ((with_reducible refine D.pick ?_); refine L.pk rfl rfl rfl rfl ?_) | ((with_reducible refine D.aw ?_); first | ((with_reducible refine D.sblk ?_); refine K.sq (AW.block ?_)) | refine K.sq (AW.regL ?_) | refine AW.condT rfl ?_ | refine AW.condF rfl ?_ | refine AW.ret ?_) | with_reducible refine K.tN ?_ | with_reducible refine K.tR ?_ | with_reducible refine K.bR ?_ | with_reducible refine K.r1 (by with_unfolding_all rfl) (by with_unfolding_all rfl) ?_)
        all_goals (simp at *; simp_all [tupV, V.wk, V.wks, constV]; done)
    · have e2 : (Fm.mk k ty ts fs).shape = false := by rw [e]; simp [hl]
      rw [e2]
      rcases k2 with rfl | rfl
      all_goals
        refine AC.mk Tryz.func114 rfl rfl rfl rfl rfl (Nat.le_of_ble_eq_true rfl) ?_
        repeat' (first | ((with_reducible refine D.nil ?_); refine AX.nilL ?_) | ((with_reducible refine D.load ?_); first | refine L.ldb rfl rfl rfl rfl rfl rfl ?_ | refine L.lda rfl rfl rfl rfl rfl ?_ | refine AX.sk rfl rfl ?_) | ((with_reducible refine D.move ?_); refine L.mv rfl rfl rfl ?_) | ((with_reducible refine D.fieldAddr ?_); first | refine L.fab rfl rfl rfl rfl rfl ?_ | refine AX.sk rfl rfl ?_ | ((fail_if_success refine AX.wt rfl ?_); refine AX.gs rfl rfl (fun _ => trivial) (fun h => ?_) (fun h => ?_))) | ((with_reducible refine D.assign ?_); refine L.asg rfl rfl rfl ?_) | ((with_reducible refine D.bin ?_); first | refine L.bn rfl rfl rfl rfl rfl ?_ | refine AX.sk rfl rfl ?_) | ((with_reducible refine D.call ?_); first | refine L.lnt rfl rfl rfl rfl ?_ | refine L.c2 (hz) rfl rfl rfl rfl ?_ | refine AX.sk rfl rfl ?_) | ((with_reducible refine D.box ?_); refine L.bx rfl rfl rfl rfl ?_) | ((with_reducible refine D.indexAddr ?_); first | refine L.ixt _ rfl rfl rfl rfl rfl rfl rfl (by (simp at *; omega)) ?_ | refine AX.sk rfl rfl ?_) | ((with_reducible refine D.pick ?_); refine L.pk rfl rfl rfl rfl ?_) | ((with_reducible refine D.aw ?_); first | ((with_reducible refine D.sblk ?_); refine K.sq (AW.block ?_)) | refine K.sq (AW.regL ?_) | refine AW.condT rfl ?_ | refine AW.condF rfl ?_ | refine AW.ret ?_) | with_reducible refine K.tN ?_ | with_reducible refine K.tR ?_ | with_reducible refine K.bR ?_ | with_reducible refine K.r1 (by with_unfolding_all rfl) (by with_unfolding_all rfl) ?_)
        all_goals first
          | (simp at *; simp_all [tupV, V.wk, V.wks, constV]; done)
          | (exfalso; simp at *; omega)
  cases k3 : quantK f.kind with
  | true =>
    have e := fshapeQu k3
    rw [k3] at hq
    have hk : f.kind = 4 ∨ f.kind = 5 ∨ f.kind = 6 ∨ f.kind = 7 := by rw [quantK_iff] at k3; omega
    obtain ⟨k, ty, ts, fs⟩ := f
    simp only [Fm.kind_mk, Fm.ty_mk, Fm.terms_mk, Fm.args_mk] at *
    rw [tyok_err] at e
    by_cases hl : fs.length = 1
    · obtain ⟨a, rfl⟩ := len_1 hl
      have t1 := ha a (by simp)
      rw [e]
      rcases hk with rfl | rfl | rfl | rfl
      all_goals
        refine AC.mk Tryz.func114 rfl rfl rfl rfl rfl (Nat.le_of_ble_eq_true rfl) ?_
        repeat' (first | ((with_reducible refine D.nil ?_); refine AX.nilL ?_) | ((with_reducible refine D.load ?_); first | refine L.ldb rfl rfl rfl rfl rfl rfl ?_ | refine L.lda rfl rfl rfl rfl rfl ?_ | refine AX.sk rfl rfl ?_) | ((with_reducible refine D.move ?_); refine L.mv rfl rfl rfl ?_) | ((with_reducible refine D.fieldAddr ?_); first | refine L.fab rfl rfl rfl rfl rfl ?_ | refine AX.sk rfl rfl ?_ | ((fail_if_success refine AX.wt rfl ?_); refine AX.gs rfl rfl (fun _ => trivial) (fun h => ?_) (fun h => ?_))) | ((with_reducible refine D.assign ?_); refine L.asg rfl rfl rfl ?_) | ((with_reducible refine D.bin ?_); first | refine L.bn rfl rfl rfl rfl rfl ?_ | refine AX.sk rfl rfl ?_) | ((with_reducible refine D.call ?_); first | refine L.lnt rfl rfl rfl rfl ?_ | refine L.c2 (hty) rfl rfl rfl rfl ?_ | refine L.c2 (hq) rfl rfl rfl rfl ?_ | refine L.c2 (t1) rfl rfl rfl rfl ?_ | refine AX.sk rfl rfl ?_) | ((with_reducible refine D.box ?_); refine L.bx rfl rfl rfl rfl ?_) | ((with_reducible refine D.indexAddr ?_); first | refine L.ixt _ rfl rfl rfl rfl rfl rfl rfl (by (simp; done)) ?_ | refine AX.sk rfl rfl ?_) | ((with_reducible refine D.pick ?_); refine L.pk rfl rfl rfl rfl ?_) | ((with_reducible refine D.aw ?_); first | ((with_reducible refine D.sblk ?_); refine K.sq (AW.block ?_)) | refine K.sq (AW.regL ?_) | refine AW.condT rfl ?_ | refine AW.condF rfl ?_ | refine AW.ret ?_) | with_reducible refine K.tN ?_ | with_reducible refine K.tR ?_ | with_reducible refine K.bR ?_ | with_reducible refine K.r1 (by with_unfolding_all rfl) (by with_unfolding_all rfl) ?_)
        all_goals (simp at *; simp_all [tupV, V.wk, V.wks, constV]; done)
    · have e2 : (Fm.mk k ty ts fs).shape = false := by rw [e]; simp [hl]
      rw [e2]
      rcases hk with rfl | rfl | rfl | rfl
      all_goals
        refine AC.mk Tryz.func114 rfl rfl rfl rfl rfl (Nat.le_of_ble_eq_true rfl) ?_
        repeat' (first | ((with_reducible refine D.nil ?_); refine AX.nilL ?_) | ((with_reducible refine D.load ?_); first | refine L.ldb rfl rfl rfl rfl rfl rfl ?_ | refine L.lda rfl rfl rfl rfl rfl ?_ | refine AX.sk rfl rfl ?_) | ((with_reducible refine D.move ?_); refine L.mv rfl rfl rfl ?_) | ((with_reducible refine D.fieldAddr ?_); first | refine L.fab rfl rfl rfl rfl rfl ?_ | refine AX.sk rfl rfl ?_ | ((fail_if_success refine AX.wt rfl ?_); refine AX.gs rfl rfl (fun _ => trivial) (fun h => ?_) (fun h => ?_))) | ((with_reducible refine D.assign ?_); refine L.asg rfl rfl rfl ?_) | ((with_reducible refine D.bin ?_); first | refine L.bn rfl rfl rfl rfl rfl ?_ | refine AX.sk rfl rfl ?_) | ((with_reducible refine D.call ?_); first | refine L.lnt rfl rfl rfl rfl ?_ | refine L.c2 (hty) rfl rfl rfl rfl ?_ | refine L.c2 (hq) rfl rfl rfl rfl ?_ | refine AX.sk rfl rfl ?_) | ((with_reducible refine D.box ?_); refine L.bx rfl rfl rfl rfl ?_) | ((with_reducible refine D.indexAddr ?_); first | refine L.ixt _ rfl rfl rfl rfl rfl rfl rfl (by (simp at *; omega)) ?_ | refine AX.sk rfl rfl ?_) | ((with_reducible refine D.pick ?_); refine L.pk rfl rfl rfl rfl ?_) | ((with_reducible refine D.aw ?_); first | ((with_reducible refine D.sblk ?_); refine K.sq (AW.block ?_)) | refine K.sq (AW.regL ?_) | refine AW.condT rfl ?_ | refine AW.condF rfl ?_ | refine AW.ret ?_) | with_reducible refine K.tN ?_ | with_reducible refine K.tR ?_ | with_reducible refine K.bR ?_ | with_reducible refine K.r1 (by with_unfolding_all rfl) (by with_unfolding_all rfl) ?_)
        all_goals first
          | (simp at *; simp_all [tupV, V.wk, V.wks, constV]; done)
          | (exfalso; simp at *; omega)
  | false =>
    have e := fshapeNo k1 k2 k3
    rw [k3] at hq
    rw [e]
    refine AC.mk Tryz.func114 rfl rfl rfl rfl rfl (Nat.le_of_ble_eq_true rfl) ?_
    repeat' (first | ((with_reducible refine D.nil ?_); refine AX.nilL ?_) | ((with_reducible refine D.load ?_); first | refine L.ldb rfl rfl rfl rfl rfl rfl ?_ | refine AX.sk rfl rfl ?_) | ((with_reducible refine D.move ?_); refine L.mv rfl rfl rfl ?_) | ((with_reducible refine D.fieldAddr ?_); first | refine L.fab rfl rfl rfl rfl rfl ?_ | refine AX.sk rfl rfl ?_ | ((fail_if_success refine AX.wt rfl ?_); refine AX.gs rfl rfl (fun _ => trivial) (fun h => ?_) (fun h => ?_))) | ((with_reducible refine D.assign ?_); refine L.asg rfl rfl rfl ?_) | ((with_reducible refine D.bin ?_); first | refine L.bn rfl rfl rfl rfl rfl ?_ | refine AX.sk rfl rfl ?_) | ((with_reducible refine D.call ?_); first | refine L.lnt rfl rfl rfl rfl ?_ | refine L.c2 (hq) rfl rfl rfl rfl ?_ | refine AX.sk rfl rfl ?_) | ((with_reducible refine D.box ?_); refine L.bx rfl rfl rfl rfl ?_) | ((with_reducible refine D.indexAddr ?_); refine AX.sk rfl rfl ?_) | ((with_reducible refine D.pick ?_); refine L.pk rfl rfl rfl rfl ?_) | ((with_reducible refine D.aw ?_); first | ((with_reducible refine D.sblk ?_); refine K.sq (AW.block ?_)) | refine K.sq (AW.regL ?_) | refine AW.condT rfl ?_ | refine AW.condF rfl ?_ | refine AW.condS rfl (fun h => ?_) (fun h => ?_) | refine AW.skip ?_ | refine AW.ret ?_) | with_reducible refine K.tN ?_ | with_reducible refine K.bN ?_ | with_reducible refine K.tR ?_ | with_reducible refine K.bR ?_ | with_reducible refine K.r1 (by with_unfolding_all rfl) (by with_unfolding_all rfl) ?_)
    all_goals first
      | rfl
      | (exfalso; simp at *; omega)
theorem fcountR_c : ∀ (n : Nat) (f : Fm), f.full ≤ n → n < 549755813888 → PC E 115 [.agg f.view] (.i f.size) := by
  intro n
  induction n with
  | zero => intro f h; have := f.full_pos; omega
  | succ n ih =>
  intro f hsz hn
  have hsz' := f.full_eq
  have hse := f.size_eq
  have hlen := lsum_len Fm.full Fm.full_pos f.args
  have hlen2 := lsum_len Tm.full Tm.full_pos f.terms
  have hle1 := lsum_le (f := Tm.size) (g := Tm.full) f.terms fun x _ => x.size_le_full
  have hle2 := lsum_le (f := Fm.size) (g := Fm.full) f.args fun x _ => x.size_le_full
  refine AC.mk Tryz.func115 rfl rfl rfl rfl rfl (Nat.le_of_ble_eq_true rfl) ?_
  repeat' (first | ((with_reducible refine D.nil ?_); refine AX.nilL ?_) | ((with_reducible refine D.load ?_); refine L.ldb rfl rfl rfl rfl rfl rfl ?_) | ((with_reducible refine D.move ?_); refine L.mv rfl rfl rfl ?_) | ((with_reducible refine D.fieldAddr ?_); refine L.fab rfl rfl rfl rfl rfl ?_) | ((with_reducible refine D.assign ?_); refine L.asg rfl rfl rfl ?_) | ((with_reducible refine D.call ?_); refine L.lnt rfl rfl rfl rfl ?_) | ((with_reducible refine D.box ?_); refine L.bx rfl rfl rfl rfl ?_) | ((with_reducible refine D.aw ?_); first | refine K.sq (AW.regL ?_) | refine K.sq (K.sq ?_) | refine AW.regL ?_) | with_reducible refine K.tN ?_)
  refine AW.range f.terms.length (fun m => True)
    (fun m => ([(1, .ptr 0 0), (3, .i (1 + ((f.terms.take m).map Tm.size).sum : Nat)), (9, .s .tm f.terms), (10, .i f.terms.length), (11, .i m)], ⟨1, [(0, .var f.view)]⟩))
    (by omega) (fun m => rfl) (fun m => rfl) rfl trivial (Weak.mk [some 0] _ _ _ rfl rfl rfl rfl (by (repeat' (first | exact trivial | refine And.intro ?_ ?_ | refine ⟨_, rfl, _, rfl, ?_⟩ | exact VLe.refl _)); done) (by (repeat' (first | exact trivial | refine And.intro ?_ ?_ | refine ⟨_, rfl, _, rfl, _, rfl, ?_⟩ | exact VLe.refl _)); done)) ?_ ?_
  · intro m hm _
    have hs1 := lsum_take Tm.size f.terms m hm
    have hs2 := lsum_mem Tm.full (List.getElem_mem hm)
    have hs3 := lsum_take_le Tm.size f.terms (m + 1)
    have hc := countTm_c _ f.terms[m] (Nat.le_refl _) (by omega)
    repeat' (first | ((with_reducible refine D.nil ?_); refine AX.nilL ?_) | ((with_reducible refine D.load ?_); first | refine L.ldb rfl rfl rfl rfl rfl rfl ?_ | refine L.lda rfl rfl rfl rfl rfl ?_) | ((with_reducible refine D.move ?_); refine L.mv rfl rfl rfl ?_) | ((with_reducible refine D.assign ?_); refine L.asg rfl rfl rfl ?_) | ((with_reducible refine D.bin ?_); refine L.ad rfl rfl rfl rfl (by omega) ?_) | ((with_reducible refine D.call ?_); refine L.c2 (hc) rfl rfl rfl rfl ?_) | ((with_reducible refine D.alloc ?_); refine L.al rfl rfl rfl ?_) | ((with_reducible refine D.store ?_); refine L.st rfl rfl rfl rfl rfl rfl rfl rfl rfl ?_) | ((with_reducible refine D.indexAddr ?_); refine L.ixt _ rfl rfl rfl rfl rfl rfl rfl (by assumption) ?_) | ((with_reducible refine D.aw ?_); first | refine K.sq (AW.regL ?_) | refine AW.regL ?_) | with_reducible refine K.tN ?_ | with_reducible refine K.bN ?_)
    refine ⟨rfl, trivial, ?_⟩
    simp only [hs1]
    exact (Weak.mk [some 0] _ _ _ rfl rfl rfl rfl (by (repeat' (first | exact trivial | refine And.intro ?_ ?_ | refine ⟨_, rfl, _, rfl, ?_⟩ | exact VLe.refl _ | exact VLe.of_eq (by simp [Sto.upd, Int.natCast_add, Int.add_assoc]))); done) (by (repeat' (first | exact trivial | refine And.intro ?_ ?_ | refine ⟨_, rfl, _, rfl, _, rfl, ?_⟩ | exact VLe.refl _)); done))
  · intro _
    simp only [List.take_length]
    repeat' (first | ((with_reducible refine D.nil ?_); refine AX.nilL ?_) | ((with_reducible refine D.load ?_); refine L.ldb rfl rfl rfl rfl rfl rfl ?_) | ((with_reducible refine D.move ?_); refine L.mv rfl rfl rfl ?_) | ((with_reducible refine D.fieldAddr ?_); refine L.fab rfl rfl rfl rfl rfl ?_) | ((with_reducible refine D.call ?_); refine L.lnt rfl rfl rfl rfl ?_) | ((with_reducible refine D.aw ?_); first | refine K.sq (K.sq ?_) | refine AW.regL ?_) | with_reducible refine K.tN ?_)
    refine AW.range f.args.length (fun m => True)
      (fun m => ([(1, .ptr 0 0), (3, .i (1 + (f.terms.map Tm.size).sum + ((f.args.take m).map Fm.size).sum : Nat)), (21, .s .fm f.args), (22, .i f.args.length), (23, .i m)], ⟨1, [(0, .var f.view)]⟩))
      (by omega) (fun m => rfl) (fun m => rfl) rfl trivial (Weak.mk [some 0] _ _ _ rfl rfl rfl rfl (by (repeat' (first | exact trivial | refine And.intro ?_ ?_ | refine ⟨_, rfl, _, rfl, ?_⟩ | exact VLe.refl _)); done) (by (repeat' (first | exact trivial | refine And.intro ?_ ?_ | refine ⟨_, rfl, _, rfl, _, rfl, ?_⟩ | exact VLe.refl _)); done)) ?_ ?_
    · intro m hm _
      have hs1 := lsum_take Fm.size f.args m hm
      have hs2 := lsum_mem Fm.full (List.getElem_mem hm)
      have hs3 := lsum_take_le Fm.size f.args (m + 1)
      have hc := ih f.args[m] (by omega) (by omega)
      repeat' (first | ((with_reducible refine D.nil ?_); refine AX.nilL ?_) | ((with_reducible refine D.load ?_); first | refine L.ldb rfl rfl rfl rfl rfl rfl ?_ | refine L.lda rfl rfl rfl rfl rfl ?_) | ((with_reducible refine D.move ?_); refine L.mv rfl rfl rfl ?_) | ((with_reducible refine D.assign ?_); refine L.asg rfl rfl rfl ?_) | ((with_reducible refine D.bin ?_); refine L.ad rfl rfl rfl rfl (by omega) ?_) | ((with_reducible refine D.call ?_); refine L.c2 (hc) rfl rfl rfl rfl ?_) | ((with_reducible refine D.alloc ?_); refine L.al rfl rfl rfl ?_) | ((with_reducible refine D.store ?_); refine L.st rfl rfl rfl rfl rfl rfl rfl rfl rfl ?_) | ((with_reducible refine D.indexAddr ?_); refine L.ixt _ rfl rfl rfl rfl rfl rfl rfl (by assumption) ?_) | ((with_reducible refine D.aw ?_); first | refine K.sq (AW.regL ?_) | refine AW.regL ?_) | with_reducible refine K.tN ?_ | with_reducible refine K.bN ?_)
      refine ⟨rfl, trivial, ?_⟩
      simp only [hs1]
      exact (Weak.mk [some 0] _ _ _ rfl rfl rfl rfl (by (repeat' (first | exact trivial | refine And.intro ?_ ?_ | refine ⟨_, rfl, _, rfl, ?_⟩ | exact VLe.refl _ | exact VLe.of_eq (by simp [Sto.upd, Int.natCast_add, Int.add_assoc]))); done) (by (repeat' (first | exact trivial | refine And.intro ?_ ?_ | refine ⟨_, rfl, _, rfl, _, rfl, ?_⟩ | exact VLe.refl _)); done))
    · intro _
      simp only [List.take_length]
      repeat' (first | ((with_reducible refine D.nil ?_); refine AX.nilL ?_) | ((with_reducible refine D.move ?_); refine L.mv rfl rfl rfl ?_) | ((with_reducible refine D.assign ?_); refine L.asg rfl rfl rfl ?_) | ((with_reducible refine D.aw ?_); first | refine K.sq (AW.regL ?_) | refine AW.ret ?_) | with_reducible refine K.tN ?_ | with_reducible refine K.r1 (by with_unfolding_all rfl) (by with_unfolding_all rfl) ?_)
      rw [hse]
      rfl
theorem fcheckR_c (f : Fm) (hf : f.full < 549755813888) : PC E 57 [.agg f.view] (.i f.err) := by
  have h1 := fshapeR_c _ f (Nat.le_refl _) hf
  have h2 := fcountR_c _ f (Nat.le_refl _) hf
  have hle := f.size_le_full
  cases hs : f.shape with
  | false =>
    have e : f.err = 2 := by simp [Fm.err, hs]
    rw [hs] at h1
    rw [e]
    refine AC.mk Tryz.func57 rfl rfl rfl rfl rfl (Nat.le_of_ble_eq_true rfl) ?_
    repeat' (first | ((with_reducible refine D.nil ?_); refine AX.nilL ?_) | ((with_reducible refine D.load ?_); refine L.ldb rfl rfl rfl rfl rfl rfl ?_) | ((with_reducible refine D.assign ?_); refine L.asg rfl rfl rfl ?_) | ((with_reducible refine D.call ?_); refine L.c2 (h1) rfl rfl rfl rfl ?_) | ((with_reducible refine D.box ?_); refine L.bx rfl rfl rfl rfl ?_) | ((with_reducible refine D.not ?_); refine L.nt rfl rfl rfl ?_) | ((with_reducible refine D.aw ?_); first | refine K.sq (AW.regL ?_) | refine K.sq (K.sq ?_) | refine AW.regL ?_ | refine AW.condT rfl ?_ | refine AW.ret ?_) | with_reducible refine K.tN ?_ | with_reducible refine K.tR ?_ | with_reducible refine K.r1 (by with_unfolding_all rfl) (by with_unfolding_all rfl) ?_)
    rfl
  | true =>
    rw [hs] at h1
    by_cases hz : f.size > 4096
    · have e : f.err = 4 := by simp [Fm.err, hs, hz]
      rw [e]
      refine AC.mk Tryz.func57 rfl rfl rfl rfl rfl (Nat.le_of_ble_eq_true rfl) ?_
      repeat' (first | ((with_reducible refine D.nil ?_); refine AX.nilL ?_) | ((with_reducible refine D.load ?_); refine L.ldb rfl rfl rfl rfl rfl rfl ?_) | ((with_reducible refine D.assign ?_); refine L.asg rfl rfl rfl ?_) | ((with_reducible refine D.bin ?_); refine L.bn rfl rfl rfl rfl rfl ?_) | ((with_reducible refine D.call ?_); first | refine L.c2 (h1) rfl rfl rfl rfl ?_ | refine L.c2 (h2) rfl rfl rfl rfl ?_) | ((with_reducible refine D.box ?_); refine L.bx rfl rfl rfl rfl ?_) | ((with_reducible refine D.not ?_); refine L.nt rfl rfl rfl ?_) | ((with_reducible refine D.aw ?_); first | refine K.sq (AW.regL ?_) | refine K.sq (K.sq ?_) | refine AW.regL ?_ | refine AW.condF rfl ?_ | refine AW.condS rfl (fun h => ?_) (fun h => ?_) | refine AW.skip ?_ | refine AW.ret ?_) | with_reducible refine K.tN ?_ | with_reducible refine K.tR ?_ | with_reducible refine K.r1 (by with_unfolding_all rfl) (by with_unfolding_all rfl) ?_)
      · rfl
      · exfalso; simp at h; omega
    · have e : f.err = 0 := by simp [Fm.err, hs, hz]
      rw [e]
      refine AC.mk Tryz.func57 rfl rfl rfl rfl rfl (Nat.le_of_ble_eq_true rfl) ?_
      repeat' (first | ((with_reducible refine D.nil ?_); refine AX.nilL ?_) | ((with_reducible refine D.load ?_); refine L.ldb rfl rfl rfl rfl rfl rfl ?_) | ((with_reducible refine D.assign ?_); refine L.asg rfl rfl rfl ?_) | ((with_reducible refine D.bin ?_); refine L.bn rfl rfl rfl rfl rfl ?_) | ((with_reducible refine D.call ?_); first | refine L.c2 (h1) rfl rfl rfl rfl ?_ | refine L.c2 (h2) rfl rfl rfl rfl ?_) | ((with_reducible refine D.box ?_); refine L.bx rfl rfl rfl rfl ?_) | ((with_reducible refine D.not ?_); refine L.nt rfl rfl rfl ?_) | ((with_reducible refine D.aw ?_); first | refine K.sq (AW.regL ?_) | refine K.sq (K.sq ?_) | refine AW.regL ?_ | refine AW.condF rfl ?_ | refine AW.condS rfl (fun h => ?_) (fun h => ?_) | refine AW.skip ?_ | refine AW.ret ?_) | with_reducible refine K.tN ?_ | with_reducible refine K.tR ?_ | with_reducible refine K.r1 (by with_unfolding_all rfl) (by with_unfolding_all rfl) ?_)
      · exfalso; simp at h; omega
      · rfl
theorem fhas_c : ∀ (n : Nat) (f : Fm) (at_ : Int), f.full ≤ n → n < 274877906944 → -274877906944 ≤ at_ → at_ + n < 549755813888 → f.shape = true → PC E 12 [.agg f.view, .i at_] (.bool (decide (timesF at_ f ≠ 0))) := by
  intro n
  induction n with
  | zero => intro f at_ h; have := f.full_pos; omega
  | succ n ih =>
  intro f at_ hsz hn h1 h2 hs
  have hsz' := f.full_eq
  have hlen := lsum_len Fm.full Fm.full_pos f.args
  have hlen2 := lsum_len Tm.full Tm.full_pos f.terms
  have he := timesF_eq (at_ := at_) hs
  have hup := upF_le f.kind at_
  have hpl := upF_plus f.kind at_
  have hb := rfbelow_c f
  refine AC.mk Tryz.func12 rfl rfl rfl rfl rfl (Nat.le_of_ble_eq_true rfl) ?_
  repeat' (first | ((with_reducible refine D.nil ?_); refine AX.nilL ?_) | ((with_reducible refine D.load ?_); refine L.ldb rfl rfl rfl rfl rfl rfl ?_) | ((with_reducible refine D.move ?_); refine L.mv rfl rfl rfl ?_) | ((with_reducible refine D.fieldAddr ?_); refine L.fab rfl rfl rfl rfl rfl ?_) | ((with_reducible refine D.assign ?_); refine L.asg rfl rfl rfl ?_) | ((with_reducible refine D.call ?_); refine L.lnt rfl rfl rfl rfl ?_) | ((with_reducible refine D.box ?_); refine L.bx rfl rfl rfl rfl ?_) | ((with_reducible refine D.aw ?_); first | refine K.sq (AW.regL ?_) | refine K.sq (K.sq ?_) | refine AW.regL ?_) | with_reducible refine K.tN ?_)
  refine AW.range f.terms.length (fun m => ∀ j (hj : j < f.terms.length), j < m → timesT at_ f.terms[j] = 0)
    (fun m => ([(1, .i at_), (2, .ptr 0 0), (10, .s .tm f.terms), (11, .i f.terms.length), (12, .i m)], ⟨1, [(0, .var f.view)]⟩))
    (by omega) (fun m => rfl) (fun m => rfl) rfl (fun j hj h => by omega) (Weak.mk [some 0] _ _ _ rfl rfl rfl rfl (by (repeat' (first | exact trivial | refine And.intro ?_ ?_ | refine ⟨_, rfl, _, rfl, ?_⟩ | exact VLe.refl _)); done) (by (repeat' (first | exact trivial | refine And.intro ?_ ?_ | refine ⟨_, rfl, _, rfl, _, rfl, ?_⟩ | exact VLe.refl _)); done)) ?_ ?_
  · intro m hm hP
    have hs2 := lsum_mem Tm.full (List.getElem_mem hm)
    have hc := rhas_c _ f.terms[m] at_ (Nat.le_refl _) (by omega) (by omega) (by omega) (fshape_terms hs (List.getElem_mem hm))
    repeat' (first | ((with_reducible refine D.nil ?_); refine AX.nilL ?_) | ((with_reducible refine D.load ?_); first | refine L.ldb rfl rfl rfl rfl rfl rfl ?_ | refine L.lda rfl rfl rfl rfl rfl ?_) | ((with_reducible refine D.move ?_); refine L.mv rfl rfl rfl ?_) | ((with_reducible refine D.assign ?_); refine L.asg rfl rfl rfl ?_) | ((with_reducible refine D.call ?_); refine L.c2 (hc) rfl rfl rfl rfl ?_) | ((with_reducible refine D.alloc ?_); refine L.al rfl rfl rfl ?_) | ((with_reducible refine D.store ?_); refine L.st rfl rfl rfl rfl rfl rfl rfl rfl rfl ?_) | ((with_reducible refine D.indexAddr ?_); refine L.ixt _ rfl rfl rfl rfl rfl rfl rfl (by assumption) ?_) | ((with_reducible refine D.aw ?_); first | refine K.sq (AW.regL ?_) | refine AW.condS rfl (fun h => ?_) (fun h => ?_) | refine AW.skip ?_ | refine AW.ret ?_) | with_reducible refine K.tN ?_ | with_reducible refine K.bN ?_ | with_reducible refine K.tR ?_ | with_reducible refine K.bR ?_ | with_reducible refine K.gR ?_ | with_reducible refine K.r1 (by with_unfolding_all rfl) (by with_unfolding_all rfl) ?_)
    · have hx : timesT at_ f.terms[m] ≠ 0 := by simpa using h
      have := sum_pos hm hx
      rw [he, decide_eq_true (show _ ≠ 0 by omega)]; rfl
    · have hx : timesT at_ f.terms[m] = 0 := by simpa using h
      exact ⟨rfl, all_step (p := fun t' => timesT at_ t' = 0) hm hP hx, (Weak.mk [some 0] _ _ _ rfl rfl rfl rfl (by (repeat' (first | exact trivial | refine And.intro ?_ ?_ | refine ⟨_, rfl, _, rfl, ?_⟩ | exact VLe.refl _)); done) (by (repeat' (first | exact trivial | refine And.intro ?_ ?_ | refine ⟨_, rfl, _, rfl, _, rfl, ?_⟩ | exact VLe.refl _)); done))⟩
  · intro hP
    rw [sum_zero (f := timesT at_) fun j hj => hP j hj hj, Nat.zero_add] at he
    repeat' (first | ((with_reducible refine D.nil ?_); refine AX.nilL ?_) | ((with_reducible refine D.load ?_); refine L.ldb rfl rfl rfl rfl rfl rfl ?_) | ((with_reducible refine D.move ?_); refine L.mv rfl rfl rfl ?_) | ((with_reducible refine D.fieldAddr ?_); refine L.fab rfl rfl rfl rfl rfl ?_) | ((with_reducible refine D.call ?_); refine L.lnt rfl rfl rfl rfl ?_) | ((with_reducible refine D.aw ?_); first | refine K.sq (K.sq ?_) | refine AW.regL ?_) | with_reducible refine K.tN ?_)
    refine AW.range f.args.length (fun m => ∀ j (hj : j < f.args.length), j < m → timesF (upF f.kind at_) f.args[j] = 0)
      (fun m => ([(1, .i at_), (2, .ptr 0 0), (21, .s .fm f.args), (22, .i f.args.length), (23, .i m)], ⟨1, [(0, .var f.view)]⟩))
      (by omega) (fun m => rfl) (fun m => rfl) rfl (fun j hj h => by omega) (Weak.mk [some 0] _ _ _ rfl rfl rfl rfl (by (repeat' (first | exact trivial | refine And.intro ?_ ?_ | refine ⟨_, rfl, _, rfl, ?_⟩ | exact VLe.refl _)); done) (by (repeat' (first | exact trivial | refine And.intro ?_ ?_ | refine ⟨_, rfl, _, rfl, _, rfl, ?_⟩ | exact VLe.refl _)); done)) ?_ ?_
    · intro m hm hP
      have hs2 := lsum_mem Fm.full (List.getElem_mem hm)
      have hc := ih f.args[m] (upF f.kind at_) (by omega) (by omega) (by omega) (by omega) (fshape_args hs (List.getElem_mem hm))
      rw [← hpl] at hc
      rw [← hpl] at hP he
      repeat' (first | ((with_reducible refine D.nil ?_); first | refine AX.nilL ?_ | refine AX.nilD (by kernel_rfl) ?_) | ((with_reducible refine D.load ?_); first | refine L.ldb rfl rfl rfl rfl rfl rfl ?_ | refine L.lda rfl rfl rfl rfl rfl ?_) | ((with_reducible refine D.move ?_); refine L.mv rfl rfl rfl ?_) | ((with_reducible refine D.assign ?_); refine L.asg rfl rfl rfl ?_) | ((with_reducible refine D.bin ?_); refine L.ad rfl rfl rfl rfl (by omega) ?_) | ((with_reducible refine D.call ?_); first | refine L.c2 (hb) rfl rfl rfl rfl ?_ | refine L.c2 (hc) rfl rfl rfl rfl ?_) | ((with_reducible refine D.alloc ?_); refine L.al rfl rfl rfl ?_) | ((with_reducible refine D.store ?_); refine L.st rfl rfl rfl rfl rfl rfl rfl rfl rfl ?_) | ((with_reducible refine D.indexAddr ?_); refine L.ixt _ rfl rfl rfl rfl rfl rfl rfl (by assumption) ?_) | ((with_reducible refine D.aw ?_); first | refine K.sq (AW.regL ?_) | refine K.sq (AW.regD mixed (by kernel_rfl) ?_) | refine AW.condS rfl (fun h => ?_) (fun h => ?_) | refine AW.skip ?_ | refine AW.ret ?_) | with_reducible refine K.tN ?_ | with_reducible refine K.bN ?_ | with_reducible refine K.tR ?_ | with_reducible refine K.bR ?_ | with_reducible refine K.gR ?_ | with_reducible refine K.r1 (by with_unfolding_all rfl) (by with_unfolding_all rfl) ?_)
      · have hx : timesF (at_ + upF f.kind 0) f.args[m] ≠ 0 := by simpa using h
        rw [he, decide_eq_true (sum_pos hm hx)]; rfl
      · have hx : timesF (at_ + upF f.kind 0) f.args[m] = 0 := by simpa using h
        exact ⟨rfl, by rw [← hpl]; exact all_step (p := fun t' => timesF (at_ + upF f.kind 0) t' = 0) hm hP hx, (Weak.mk [some 0] _ _ _ rfl rfl rfl rfl (by (repeat' (first | exact trivial | refine And.intro ?_ ?_ | refine ⟨_, rfl, _, rfl, ?_⟩ | exact VLe.refl _)); done) (by (repeat' (first | exact trivial | refine And.intro ?_ ?_ | refine ⟨_, rfl, _, rfl, _, rfl, ?_⟩ | exact VLe.refl _)); done))⟩
    · intro hP
      rw [he, sum_zero fun j hj => hP j hj hj]
      repeat' (first | ((with_reducible refine D.nil ?_); refine AX.nilL ?_) | ((with_reducible refine D.assign ?_); refine L.asg rfl rfl rfl ?_) | ((with_reducible refine D.aw ?_); first | refine K.sq (AW.regL ?_) | refine AW.ret ?_) | with_reducible refine K.tN ?_ | with_reducible refine K.r1 (by with_unfolding_all rfl) (by with_unfolding_all rfl) ?_)
      rfl
end Go.Ab
