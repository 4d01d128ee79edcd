/- A part of the proofs of this seat's statements: S20, S21, S22. It has no conditions of its own. -/
import Derived.Test.YtgonpippjmmipaaDoorS1
import Derived.Test.YtgonpippjmmipaaDoorD1
namespace Go.Ab
open Go Go.Proofs
set_option maxRecDepth 100000
set_option maxHeartbeats 4000000
set_option linter.all false
theorem numOf_full (d : Dk) : (numOf (d.next 3).1).full ≤ 6 := by
  obtain ⟨m, hm, e⟩ := numOf_lt d
  rw [e, numT_full]; omega
theorem smalls_sum {g : List Ty} (h : smalls g) : (g.map Ty.size).sum ≤ 3 * g.length := by
  induction g with
  | nil => simp
  | cons t l ih =>
    have h1 := (h t (by simp)).2
    have h2 := ih fun x hx => h x (by simp [hx])
    simp only [List.map_cons, List.sum_cons, List.length_cons]; omega
theorem findF_none' {g : List Ty} {t : Ty} (h : ∀ j, j < g.length → isFn g t j = false) : findF g t = none := by
  simp only [findF, List.find?_eq_none, List.mem_range]
  intro j hj; simp [h j hj]
theorem findF_at {g : List Ty} {t : Ty} {m : Nat} (hm : m < g.length) (h : ∀ j, j < m → isFn g t j = false) (h1 : isFn g t m = true) : findF g t = some m := by
  simp only [findF, List.find?_range_eq_some, List.mem_range]
  exact ⟨h1, hm, fun j hj => by simp [h j hj]⟩
theorem mid_c (n : Nat) (H : HT n) (hn : n ≤ 7) (depth : Int) (hdep : depth = (n : Int) - 1) (d : Dk) (hd : d.ok) (g : List Ty) (t : Ty) (hg : smalls g) (ht : t.small) (h0 : n = 0 → t.size = 1) (hl : g.length + 3 * (n + 1) ≤ 10000) :
    AW E Tryd.f14.ntmps 1 (partAt [1, 1, 1] (bodyOf Tryd.f14)) [(0, .ptr 0 0), (1, .s .ty g), (3, .i depth), (6, .ptr 1 0), (8, .ptr 2 0)]
      ⟨3, [(0, .var d.cells), (1, .var t.view), (2, .var [.i 0, .i 0, .i 0, .slice .nil (.t .ty []), .slice .nil (.t .tm [])])]⟩
      (retQ E 1 Tryd.f14.results.toList (.agg (d.mid (Dk.tm n) (decide (2 ≤ n)) g t).1.view) ⟨1, [(0, .var (d.mid (Dk.tm n) (decide (2 ≤ n)) g t).2.cells)]⟩) := by
  have hok : ∀ d g t, d.ok → (Dk.tm n d g t).2.ok := fun d g t h => Dk.tm_ok n d g t h
  by_cases hp : 2 ≤ n
  case neg =>
    have hp' : ¬ depth > 0 := by omega
    have e : d.mid (Dk.tm n) (decide (2 ≤ n)) g t = d.fin (Dk.tm n) (decide (2 ≤ n)) g t := by simp [Dk.mid, hp]
    show AW _ _ _ (Code.seq _ _) _ _ _
    repeat' (first | ((with_reducible refine D.nil ?_); refine AX.nilL ?_) | ((with_reducible refine D.move ?_); refine L.mv rfl rfl rfl ?_) | ((with_reducible refine D.bin ?_); refine L.bn rfl rfl rfl rfl rfl ?_) | ((with_reducible refine D.aw ?_); (fail_if_success with_reducible refine D.stopR (id := 29) ?_); (fail_if_success with_reducible refine D.stopS (id := 29) ?_); first | refine K.sq (AW.regL ?_) | refine K.sq (K.sq ?_) | refine AW.regL ?_ | refine AW.condS rfl (fun h => ?_) (fun h => ?_) | refine AW.skip ?_) | with_reducible refine K.tN ?_)
    · exact absurd (by simpa using h) hp'
    · rw [e]; exact AW.weak (Weak.mk [some 0, some 1, some 2] _ _ _ rfl rfl rfl rfl (by (repeat' (first | exact trivial | refine And.intro ?_ ?_ | refine ⟨_, rfl, _, rfl, ?_⟩ | exact VLe.refl _)); done) (by (repeat' (first | exact trivial | refine And.intro ?_ ?_ | refine ⟨_, rfl, _, rfl, _, rfl, ?_⟩ | exact VLe.refl _)); done)) (fin_c n H hn depth hdep d hd g t hg ht h0 hl)
  have hp' : depth > 0 := by omega
  have hx8 := next_c d 8 hd (by omega)
  have e := Dk.mid_pos (rec := Dk.tm n) (d := d) (g := g) (t := t) (pos := decide (2 ≤ n)) (by simpa using hp)
  have hD := Dk.next_ok hd 8
  have tp : AC E 13 [.ptr 0 0, .i 0] ⟨1, [(0, .var (d.next 8).2.cells)]⟩ (.agg ((d.next 8).2.type 0).1.view) ⟨1, [(0, .var ((d.next 8).2.type 0).2.cells)]⟩ := type_c 0 0 (d.next 8).2 (by omega) (by omega) (by omega) hD
  have hS := Dk.type0 (d.next 8).2
  have hD1 := Dk.type_ok 0 _ hD
  generalize (d.next 8).1 = kk at *
  generalize (d.next 8).2 = W at *
  generalize (W.type 0).1 = S at *
  generalize (W.type 0).2 = D1 at *
  have hSs := small_one hS.1 hS.2
  have hF : ∀ d g t, smalls g → t.small → (Dk.tm n d g t).1.full ≤ 50000 := fun d g t hg ht => tm_full hn d hg ht (by omega) (by omega)
  have hH : ∀ d g t, d.ok → smalls g → t.small → g.length + 3 * n ≤ 10000 → AC E 14 [.ptr 0 0, .s .ty g, .agg t.view, .i (depth - 1)] ⟨1, [(0, .var d.cells)]⟩ (.agg (Dk.tm n d g t).1.view) ⟨1, [(0, .var (Dk.tm n d g t).2.cells)]⟩ :=
    fun d g t h1 h2 h3 h4 => H d g t (depth - 1) (by omega) h1 h2 h3 (by omega) (by omega) h4
  have hts := ht.2
  have ht1 : t.size < 1000000 := by omega
  have gS := smalls_app hg (smalls_cons hSs smalls_nil)
  have g2 := smalls_app hg (smalls_cons small_nat (smalls_cons ht smalls_nil))
  have g3 := smalls_app hg (smalls_cons small_nat (smalls_cons small_list (smalls_cons ht smalls_nil)))
  show AW _ _ _ (Code.seq _ _) _ _ _
  by_cases k0 : kk = 0
  · subst k0
    simp only [if_true] at e
    have a := hH D1 (g ++ [S]) t hD1 gS ht (by simp; omega)
    have b := hH _ g S (hok _ (g ++ [S]) t hD1) hg hSs (by omega)
    have fa := hF D1 (g ++ [S]) t gS ht
    have fb := hF (Dk.tm n D1 (g ++ [S]) t).2 g S hg hSs
    have lo := longer_c g [S] (by simp; omega)
    have c1 := t_c 2 S [(Dk.tm n D1 (g ++ [S]) t).1] (by simp; omega) (by omega)
    have c2 := n_c 3 [lmT S (Dk.tm n D1 (g ++ [S]) t).1, (Dk.tm n (Dk.tm n D1 (g ++ [S]) t).2 g S).1] (by simp [lmT, Tm.full, Tm.fulls]; omega)
    repeat' (first | ((with_reducible refine D.nil ?_); first | refine AX.nilL ?_ | refine AX.nilD (by kernel_rfl) ?_) | ((with_reducible refine D.load ?_); refine L.ldb rfl rfl rfl rfl rfl rfl ?_) | ((with_reducible refine D.move ?_); refine L.mv rfl rfl rfl ?_) | ((with_reducible refine D.assign ?_); refine L.asg rfl rfl rfl ?_) | ((with_reducible refine D.bin ?_); first | refine L.sb rfl rfl rfl rfl (by omega) ?_ | refine L.bn rfl rfl rfl rfl rfl ?_) | ((with_reducible refine D.call ?_); first | (apply L.cb2 (hx8) [0] 0 rfl; rfl; rfl; rfl; rfl; rfl; rfl; (focus ((repeat' (first | exact trivial | refine And.intro ?_ ?_ | refine ⟨_, rfl, _, rfl, _, rfl, ?_⟩ | exact VLe.refl _)); done)); rfl; rfl; rfl; rfl) | (apply L.cb2 (tp) [0] 0 rfl; rfl; rfl; rfl; rfl; rfl; rfl; (focus ((repeat' (first | exact trivial | refine And.intro ?_ ?_ | refine ⟨_, rfl, _, rfl, _, rfl, ?_⟩ | exact VLe.refl _)); done)); rfl; rfl; rfl; rfl) | (apply L.cb2 (a) [0] 0 rfl; rfl; rfl; rfl; rfl; rfl; rfl; (focus ((repeat' (first | exact trivial | refine And.intro ?_ ?_ | refine ⟨_, rfl, _, rfl, _, rfl, ?_⟩ | exact VLe.refl _)); done)); rfl; rfl; rfl; rfl) | (apply L.cb2 (b) [0] 0 rfl; rfl; rfl; rfl; rfl; rfl; rfl; (focus ((repeat' (first | exact trivial | refine And.intro ?_ ?_ | refine ⟨_, rfl, _, rfl, _, rfl, ?_⟩ | exact VLe.refl _)); done)); rfl; rfl; rfl; rfl) | refine L.c2 (lo) rfl rfl rfl rfl ?_ | refine L.c2 (c1) rfl rfl rfl rfl ?_ | refine L.c2 (c2) rfl rfl rfl rfl ?_) | ((with_reducible refine D.alloc ?_); refine L.al rfl rfl rfl ?_) | ((with_reducible refine D.store ?_); refine L.st rfl rfl rfl rfl rfl rfl rfl rfl rfl ?_) | ((with_reducible refine D.ax ?_); first | refine L.bs1 rfl rfl rfl rfl rfl (EC.fold_of rfl) rfl rfl ?_ | refine L.bs2 rfl rfl rfl rfl rfl (EC.fold_of rfl) rfl rfl rfl (EC.fold_of rfl) rfl rfl ?_) | ((with_reducible refine D.aw ?_); (fail_if_success with_reducible refine D.stopR (id := 29) ?_); (fail_if_success with_reducible refine D.stopS (id := 29) ?_); first | ((with_reducible refine D.blk ?_); refine AW.block ?_) | refine K.sq (AW.regL ?_) | refine K.sq (AW.regD mixed (by kernel_rfl) ?_) | refine K.sq (K.sq ?_) | refine AW.regL ?_ | refine AW.condT rfl ?_ | refine AW.condS rfl (fun h => ?_) (fun h => ?_) | refine AW.skip ?_ | refine AW.ret ?_) | with_reducible refine K.tN ?_ | with_reducible refine K.tR ?_ | with_reducible refine K.bR ?_)
    · (exact K.n2 [some 0] rfl rfl rfl rfl rfl (by (repeat' (first | exact trivial | refine And.intro ?_ ?_ | refine ⟨_, rfl, _, rfl, _, rfl, ?_⟩ | exact VLe.of_eq (by simp [Sto.upd, e, Dk.m0, apT]))); done) rfl (by simp [tupV, V.wk, V.wks, constV, Ty.view, Tm.view, e, Dk.m0, apT]))
    · exact absurd hp' (by simpa using h)
  rw [if_neg k0] at e
  by_cases k1 : kk = 1
  · subst k1
    rw [if_pos rfl] at e
    have a := hH D1 g t hD1 hg ht (by omega)
    have b := hH _ g S (hok _ g t hD1) hg hSs (by omega)
    have fa := hF D1 g t hg ht
    have fb := hF (Dk.tm n D1 g t).2 g S hg hSs
    have c1 := n_c 10 [(Dk.tm n D1 g t).1, (Dk.tm n (Dk.tm n D1 g t).2 g S).1] (by simp; omega)
    have c2 := n_c 11 [nT 10 [(Dk.tm n D1 g t).1, (Dk.tm n (Dk.tm n D1 g t).2 g S).1]] (by simp [nT, Tm.full, Tm.fulls, Ty.size, Ty.sizes]; omega)
    repeat' (first | ((with_reducible refine D.nil ?_); first | refine AX.nilL ?_ | refine AX.nilD (by kernel_rfl) ?_) | ((with_reducible refine D.load ?_); refine L.ldb rfl rfl rfl rfl rfl rfl ?_) | ((with_reducible refine D.move ?_); refine L.mv rfl rfl rfl ?_) | ((with_reducible refine D.assign ?_); refine L.asg rfl rfl rfl ?_) | ((with_reducible refine D.bin ?_); first | refine L.sb rfl rfl rfl rfl (by omega) ?_ | refine L.bn rfl rfl rfl rfl rfl ?_) | ((with_reducible refine D.call ?_); first | (apply L.cb2 (hx8) [0] 0 rfl; rfl; rfl; rfl; rfl; rfl; rfl; (focus ((repeat' (first | exact trivial | refine And.intro ?_ ?_ | refine ⟨_, rfl, _, rfl, _, rfl, ?_⟩ | exact VLe.refl _)); done)); rfl; rfl; rfl; rfl) | (apply L.cb2 (tp) [0] 0 rfl; rfl; rfl; rfl; rfl; rfl; rfl; (focus ((repeat' (first | exact trivial | refine And.intro ?_ ?_ | refine ⟨_, rfl, _, rfl, _, rfl, ?_⟩ | exact VLe.refl _)); done)); rfl; rfl; rfl; rfl) | (apply L.cb2 (a) [0] 0 rfl; rfl; rfl; rfl; rfl; rfl; rfl; (focus ((repeat' (first | exact trivial | refine And.intro ?_ ?_ | refine ⟨_, rfl, _, rfl, _, rfl, ?_⟩ | exact VLe.refl _)); done)); rfl; rfl; rfl; rfl) | (apply L.cb2 (b) [0] 0 rfl; rfl; rfl; rfl; rfl; rfl; rfl; (focus ((repeat' (first | exact trivial | refine And.intro ?_ ?_ | refine ⟨_, rfl, _, rfl, _, rfl, ?_⟩ | exact VLe.refl _)); done)); rfl; rfl; rfl; rfl) | refine L.c2 (c1) rfl rfl rfl rfl ?_ | refine L.c2 (c2) rfl rfl rfl rfl ?_) | ((with_reducible refine D.alloc ?_); refine L.al rfl rfl rfl ?_) | ((with_reducible refine D.store ?_); refine L.st rfl rfl rfl rfl rfl rfl rfl rfl rfl ?_) | ((with_reducible refine D.ax ?_); first | refine L.bs1 rfl rfl rfl rfl rfl (EC.fold_of rfl) rfl rfl ?_ | refine L.bs2 rfl rfl rfl rfl rfl (EC.fold_of rfl) rfl rfl rfl (EC.fold_of rfl) rfl rfl ?_) | ((with_reducible refine D.aw ?_); (fail_if_success with_reducible refine D.stopR (id := 29) ?_); (fail_if_success with_reducible refine D.stopS (id := 29) ?_); first | ((with_reducible refine D.blk ?_); refine AW.block ?_) | refine K.sq (AW.regL ?_) | refine K.sq (AW.regD mixed (by kernel_rfl) ?_) | refine K.sq (K.sq ?_) | refine AW.regL ?_ | refine AW.condT rfl ?_ | refine AW.condF rfl ?_ | refine AW.condS rfl (fun h => ?_) (fun h => ?_) | refine AW.skip ?_ | refine AW.ret ?_) | with_reducible refine K.tN ?_ | with_reducible refine K.tR ?_ | with_reducible refine K.bR ?_)
    · (exact K.n2 [some 0] rfl rfl rfl rfl rfl (by (repeat' (first | exact trivial | refine And.intro ?_ ?_ | refine ⟨_, rfl, _, rfl, _, rfl, ?_⟩ | exact VLe.of_eq (by simp [Sto.upd, e, Dk.m1, nT]))); done) rfl (by simp [tupV, V.wk, V.wks, constV, Ty.view, Tm.view, e, Dk.m1, nT]))
    · exact absurd hp' (by simpa using h)
  rw [if_neg k1] at e
  by_cases k2 : kk = 2
  · subst k2
    rw [if_pos rfl] at e
    have a := hH W (g ++ [natT, t]) t hD g2 ht (by simp; omega)
    have b := hH _ g t (hok _ (g ++ [natT, t]) t hD) hg ht (by omega)
    have hdb := hok _ g t (hok _ (g ++ [natT, t]) t hD)
    have fa := hF W (g ++ [natT, t]) t g2 ht
    have fb := hF (Dk.tm n W (g ++ [natT, t]) t).2 g t hg ht
    have lo := longer_c g [natT, t] (by simp; omega)
    have nx := next_c _ 3 hdb (by omega)
    have nu := num_c ((Dk.tm n (Dk.tm n W (g ++ [natT, t]) t).2 g t).2.next 3).1
    have fn := numOf_full (Dk.tm n (Dk.tm n W (g ++ [natT, t]) t).2 g t).2
    have en : natT.size = 1 := rfl
    have c1 := t_c 2 t [(Dk.tm n W (g ++ [natT, t]) t).1] (by simp; omega) (by omega)
    have c2 := t_c 2 natT [lmT t (Dk.tm n W (g ++ [natT, t]) t).1] (by simp [lmT, Tm.full, Tm.fulls]; omega) (by omega)
    have c3 := t_c 6 t [(Dk.tm n (Dk.tm n W (g ++ [natT, t]) t).2 g t).1, lmT natT (lmT t (Dk.tm n W (g ++ [natT, t]) t).1), numOf ((Dk.tm n (Dk.tm n W (g ++ [natT, t]) t).2 g t).2.next 3).1] (by simp [lmT, Tm.full, Tm.fulls]; omega) (by omega)
    repeat' (first | ((with_reducible refine D.nil ?_); first | refine AX.nilL ?_ | refine AX.nilD (by kernel_rfl) ?_) | ((with_reducible refine D.load ?_); refine L.ldb rfl rfl rfl rfl rfl rfl ?_) | ((with_reducible refine D.move ?_); refine L.mv rfl rfl rfl ?_) | ((with_reducible refine D.assign ?_); refine L.asg rfl rfl rfl ?_) | ((with_reducible refine D.bin ?_); first | refine L.sb rfl rfl rfl rfl (by omega) ?_ | refine L.bn rfl rfl rfl rfl rfl ?_) | ((with_reducible refine D.call ?_); first | refine L.c2 (nat_c) rfl rfl rfl rfl ?_ | (apply L.cb2 (hx8) [0] 0 rfl; rfl; rfl; rfl; rfl; rfl; rfl; (focus ((repeat' (first | exact trivial | refine And.intro ?_ ?_ | refine ⟨_, rfl, _, rfl, _, rfl, ?_⟩ | exact VLe.refl _)); done)); rfl; rfl; rfl; rfl) | (apply L.cb2 (a) [0] 0 rfl; rfl; rfl; rfl; rfl; rfl; rfl; (focus ((repeat' (first | exact trivial | refine And.intro ?_ ?_ | refine ⟨_, rfl, _, rfl, _, rfl, ?_⟩ | exact VLe.refl _)); done)); rfl; rfl; rfl; rfl) | (apply L.cb2 (b) [0] 0 rfl; rfl; rfl; rfl; rfl; rfl; rfl; (focus ((repeat' (first | exact trivial | refine And.intro ?_ ?_ | refine ⟨_, rfl, _, rfl, _, rfl, ?_⟩ | exact VLe.refl _)); done)); rfl; rfl; rfl; rfl) | refine L.c2 (lo) rfl rfl rfl rfl ?_ | (apply L.cb2 (nx) [0] 0 rfl; rfl; rfl; rfl; rfl; rfl; rfl; (focus ((repeat' (first | exact trivial | refine And.intro ?_ ?_ | refine ⟨_, rfl, _, rfl, _, rfl, ?_⟩ | exact VLe.refl _)); done)); rfl; rfl; rfl; rfl) | refine L.c2 (nu) rfl rfl rfl rfl ?_ | refine L.c2 (c1) rfl rfl rfl rfl ?_ | refine L.c2 (c2) rfl rfl rfl rfl ?_ | refine L.c2 (c3) rfl rfl rfl rfl ?_) | ((with_reducible refine D.alloc ?_); refine L.al rfl rfl rfl ?_) | ((with_reducible refine D.store ?_); refine L.st rfl rfl rfl rfl rfl rfl rfl rfl rfl ?_) | ((with_reducible refine D.ax ?_); first | refine L.bs1 rfl rfl rfl rfl rfl (EC.fold_of rfl) rfl rfl ?_ | refine L.bs2 rfl rfl rfl rfl rfl (EC.fold_of rfl) rfl rfl rfl (EC.fold_of rfl) rfl rfl ?_ | refine L.bs3 rfl rfl rfl rfl rfl (EC.fold_of rfl) rfl rfl rfl (EC.fold_of rfl) rfl rfl rfl (EC.fold_of rfl) rfl rfl ?_) | ((with_reducible refine D.aw ?_); (fail_if_success with_reducible refine D.stopR (id := 29) ?_); (fail_if_success with_reducible refine D.stopS (id := 29) ?_); first | ((with_reducible refine D.blk ?_); refine AW.block ?_) | refine K.sq (AW.regL ?_) | refine K.sq (AW.regD mixed (by kernel_rfl) ?_) | refine K.sq (K.sq ?_) | refine AW.regL ?_ | refine AW.condT rfl ?_ | refine AW.condF rfl ?_ | refine AW.condS rfl (fun h => ?_) (fun h => ?_) | refine AW.skip ?_ | refine AW.ret ?_) | with_reducible refine K.tN ?_ | with_reducible refine K.tR ?_ | with_reducible refine K.bR ?_)
    · (exact K.n2 [some 0] rfl rfl rfl rfl rfl (by (repeat' (first | exact trivial | refine And.intro ?_ ?_ | refine ⟨_, rfl, _, rfl, _, rfl, ?_⟩ | exact VLe.of_eq (by simp [Sto.upd, e, Dk.m2, hT]))); done) rfl (by simp [tupV, V.wk, V.wks, constV, Ty.view, Tm.view, e, Dk.m2, hT]))
    · exact absurd hp' (by simpa using h)
  rw [if_neg k2] at e
  by_cases k3 : kk = 3
  · subst k3
    rw [if_pos rfl] at e
    have a := hH W (g ++ [natT, listT, t]) t hD g3 ht (by simp; omega)
    have b := hH _ g t (hok _ (g ++ [natT, listT, t]) t hD) hg ht (by omega)
    have c := hH _ g listT (hok _ g t (hok _ (g ++ [natT, listT, t]) t hD)) hg small_list (by omega)
    have fa := hF W (g ++ [natT, listT, t]) t g3 ht
    have fb := hF (Dk.tm n W (g ++ [natT, listT, t]) t).2 g t hg ht
    have fc := hF (Dk.tm n (Dk.tm n W (g ++ [natT, listT, t]) t).2 g t).2 g listT hg small_list
    have lo := longer_c g [natT, listT, t] (by simp; omega)
    have en : natT.size = 1 := rfl
    have el : listT.size = 1 := rfl
    have c1 := t_c 2 t [(Dk.tm n W (g ++ [natT, listT, t]) t).1] (by simp; omega) (by omega)
    have c2 := t_c 2 listT [lmT t (Dk.tm n W (g ++ [natT, listT, t]) t).1] (by simp [lmT, Tm.full, Tm.fulls]; omega) (by omega)
    have c3 := t_c 2 natT [lmT listT (lmT t (Dk.tm n W (g ++ [natT, listT, t]) t).1)] (by simp [lmT, Tm.full, Tm.fulls]; omega) (by omega)
    have c4 := t_c 9 t [(Dk.tm n (Dk.tm n W (g ++ [natT, listT, t]) t).2 g t).1, lmT natT (lmT listT (lmT t (Dk.tm n W (g ++ [natT, listT, t]) t).1)), (Dk.tm n (Dk.tm n (Dk.tm n W (g ++ [natT, listT, t]) t).2 g t).2 g listT).1] (by simp [lmT, Tm.full, Tm.fulls]; omega) (by omega)
    repeat' (first | ((with_reducible refine D.nil ?_); first | refine AX.nilL ?_ | refine AX.nilD (by kernel_rfl) ?_) | ((with_reducible refine D.load ?_); refine L.ldb rfl rfl rfl rfl rfl rfl ?_) | ((with_reducible refine D.move ?_); refine L.mv rfl rfl rfl ?_) | ((with_reducible refine D.assign ?_); refine L.asg rfl rfl rfl ?_) | ((with_reducible refine D.bin ?_); first | refine L.sb rfl rfl rfl rfl (by omega) ?_ | refine L.bn rfl rfl rfl rfl rfl ?_) | ((with_reducible refine D.call ?_); first | refine L.c2 (nat_c) rfl rfl rfl rfl ?_ | refine L.c2 (list_c) rfl rfl rfl rfl ?_ | (apply L.cb2 (hx8) [0] 0 rfl; rfl; rfl; rfl; rfl; rfl; rfl; (focus ((repeat' (first | exact trivial | refine And.intro ?_ ?_ | refine ⟨_, rfl, _, rfl, _, rfl, ?_⟩ | exact VLe.refl _)); done)); rfl; rfl; rfl; rfl) | (apply L.cb2 (a) [0] 0 rfl; rfl; rfl; rfl; rfl; rfl; rfl; (focus ((repeat' (first | exact trivial | refine And.intro ?_ ?_ | refine ⟨_, rfl, _, rfl, _, rfl, ?_⟩ | exact VLe.refl _)); done)); rfl; rfl; rfl; rfl) | (apply L.cb2 (b) [0] 0 rfl; rfl; rfl; rfl; rfl; rfl; rfl; (focus ((repeat' (first | exact trivial | refine And.intro ?_ ?_ | refine ⟨_, rfl, _, rfl, _, rfl, ?_⟩ | exact VLe.refl _)); done)); rfl; rfl; rfl; rfl) | (apply L.cb2 (c) [0] 0 rfl; rfl; rfl; rfl; rfl; rfl; rfl; (focus ((repeat' (first | exact trivial | refine And.intro ?_ ?_ | refine ⟨_, rfl, _, rfl, _, rfl, ?_⟩ | exact VLe.refl _)); done)); rfl; rfl; rfl; rfl) | refine L.c2 (lo) rfl rfl rfl rfl ?_ | refine L.c2 (c1) rfl rfl rfl rfl ?_ | refine L.c2 (c2) rfl rfl rfl rfl ?_ | refine L.c2 (c3) rfl rfl rfl rfl ?_ | refine L.c2 (c4) rfl rfl rfl rfl ?_) | ((with_reducible refine D.alloc ?_); refine L.al rfl rfl rfl ?_) | ((with_reducible refine D.store ?_); refine L.st rfl rfl rfl rfl rfl rfl rfl rfl rfl ?_) | ((with_reducible refine D.ax ?_); first | refine L.bs1 rfl rfl rfl rfl rfl (EC.fold_of rfl) rfl rfl ?_ | refine L.bs3 rfl rfl rfl rfl rfl (EC.fold_of rfl) rfl rfl rfl (EC.fold_of rfl) rfl rfl rfl (EC.fold_of rfl) rfl rfl ?_) | ((with_reducible refine D.aw ?_); (fail_if_success with_reducible refine D.stopR (id := 29) ?_); (fail_if_success with_reducible refine D.stopS (id := 29) ?_); first | ((with_reducible refine D.blk ?_); refine AW.block ?_) | refine K.sq (AW.regL ?_) | refine K.sq (AW.regD mixed (by kernel_rfl) ?_) | refine K.sq (K.sq ?_) | refine AW.regL ?_ | refine AW.condT rfl ?_ | refine AW.condF rfl ?_ | refine AW.condS rfl (fun h => ?_) (fun h => ?_) | refine AW.skip ?_ | refine AW.ret ?_) | with_reducible refine K.tN ?_ | with_reducible refine K.tR ?_ | with_reducible refine K.bR ?_)
    · (exact K.n2 [some 0] rfl rfl rfl rfl rfl (by (repeat' (first | exact trivial | refine And.intro ?_ ?_ | refine ⟨_, rfl, _, rfl, _, rfl, ?_⟩ | exact VLe.of_eq (by simp [Sto.upd, e, Dk.m3, hT]))); done) rfl (by simp [tupV, V.wk, V.wks, constV, Ty.view, Tm.view, e, Dk.m3, hT]))
    · exact absurd hp' (by simpa using h)
  rw [if_neg k3] at e
  by_cases k4 : kk = 4
  · subst k4
    rw [if_pos rfl] at e
    have a := hH D1 g S hD1 hg hSs (by omega)
    have b := hH _ g t (hok _ g S hD1) hg ht (by omega)
    have fa := hF D1 g S hg hSs
    have fb := hF (Dk.tm n D1 g S).2 g t hg ht
    have c1 := n_c 10 [(Dk.tm n D1 g S).1, (Dk.tm n (Dk.tm n D1 g S).2 g t).1] (by simp; omega)
    have c2 := n_c 12 [nT 10 [(Dk.tm n D1 g S).1, (Dk.tm n (Dk.tm n D1 g S).2 g t).1]] (by simp [nT, Tm.full, Tm.fulls, Ty.size, Ty.sizes]; omega)
    repeat' (first | ((with_reducible refine D.nil ?_); first | refine AX.nilL ?_ | refine AX.nilD (by kernel_rfl) ?_) | ((with_reducible refine D.load ?_); refine L.ldb rfl rfl rfl rfl rfl rfl ?_) | ((with_reducible refine D.move ?_); refine L.mv rfl rfl rfl ?_) | ((with_reducible refine D.assign ?_); refine L.asg rfl rfl rfl ?_) | ((with_reducible refine D.bin ?_); first | refine L.sb rfl rfl rfl rfl (by omega) ?_ | refine L.bn rfl rfl rfl rfl rfl ?_) | ((with_reducible refine D.call ?_); first | (apply L.cb2 (hx8) [0] 0 rfl; rfl; rfl; rfl; rfl; rfl; rfl; (focus ((repeat' (first | exact trivial | refine And.intro ?_ ?_ | refine ⟨_, rfl, _, rfl, _, rfl, ?_⟩ | exact VLe.refl _)); done)); rfl; rfl; rfl; rfl) | (apply L.cb2 (tp) [0] 0 rfl; rfl; rfl; rfl; rfl; rfl; rfl; (focus ((repeat' (first | exact trivial | refine And.intro ?_ ?_ | refine ⟨_, rfl, _, rfl, _, rfl, ?_⟩ | exact VLe.refl _)); done)); rfl; rfl; rfl; rfl) | (apply L.cb2 (a) [0] 0 rfl; rfl; rfl; rfl; rfl; rfl; rfl; (focus ((repeat' (first | exact trivial | refine And.intro ?_ ?_ | refine ⟨_, rfl, _, rfl, _, rfl, ?_⟩ | exact VLe.refl _)); done)); rfl; rfl; rfl; rfl) | (apply L.cb2 (b) [0] 0 rfl; rfl; rfl; rfl; rfl; rfl; rfl; (focus ((repeat' (first | exact trivial | refine And.intro ?_ ?_ | refine ⟨_, rfl, _, rfl, _, rfl, ?_⟩ | exact VLe.refl _)); done)); rfl; rfl; rfl; rfl) | refine L.c2 (c1) rfl rfl rfl rfl ?_ | refine L.c2 (c2) rfl rfl rfl rfl ?_) | ((with_reducible refine D.alloc ?_); refine L.al rfl rfl rfl ?_) | ((with_reducible refine D.store ?_); refine L.st rfl rfl rfl rfl rfl rfl rfl rfl rfl ?_) | ((with_reducible refine D.ax ?_); first | refine L.bs1 rfl rfl rfl rfl rfl (EC.fold_of rfl) rfl rfl ?_ | refine L.bs2 rfl rfl rfl rfl rfl (EC.fold_of rfl) rfl rfl rfl (EC.fold_of rfl) rfl rfl ?_) | ((with_reducible refine D.aw ?_); (fail_if_success with_reducible refine D.stopR (id := 29) ?_); (fail_if_success with_reducible refine D.stopS (id := 29) ?_); first | ((with_reducible refine D.blk ?_); refine AW.block ?_) | refine K.sq (AW.regL ?_) | refine K.sq (AW.regD mixed (by kernel_rfl) ?_) | refine K.sq (K.sq ?_) | refine AW.regL ?_ | refine AW.condT rfl ?_ | refine AW.condF rfl ?_ | refine AW.condS rfl (fun h => ?_) (fun h => ?_) | refine AW.skip ?_ | refine AW.ret ?_) | with_reducible refine K.tN ?_ | with_reducible refine K.tR ?_ | with_reducible refine K.bR ?_)
    · (exact K.n2 [some 0] rfl rfl rfl rfl rfl (by (repeat' (first | exact trivial | refine And.intro ?_ ?_ | refine ⟨_, rfl, _, rfl, _, rfl, ?_⟩ | exact VLe.of_eq (by simp [Sto.upd, e, Dk.m4, nT]))); done) rfl (by simp [tupV, V.wk, V.wks, constV, Ty.view, Tm.view, e, Dk.m4, nT]))
    · exact absurd hp' (by simpa using h)
  rw [if_neg k4] at e
  by_cases k5 : kk = 5
  · subst k5
    rw [if_pos rfl] at e
    repeat' (first | ((with_reducible refine D.nil ?_); refine AX.nilL ?_) | ((with_reducible refine D.move ?_); refine L.mv rfl rfl rfl ?_) | ((with_reducible refine D.assign ?_); refine L.asg rfl rfl rfl ?_) | ((with_reducible refine D.bin ?_); refine L.bn rfl rfl rfl rfl rfl ?_) | ((with_reducible refine D.call ?_); first | refine L.lnt rfl rfl rfl rfl ?_ | (apply L.cb2 (hx8) [0] 0 rfl; rfl; rfl; rfl; rfl; rfl; rfl; (focus ((repeat' (first | exact trivial | refine And.intro ?_ ?_ | refine ⟨_, rfl, _, rfl, _, rfl, ?_⟩ | exact VLe.refl _)); done)); rfl; rfl; rfl; rfl)) | ((with_reducible refine D.aw ?_); (fail_if_success with_reducible refine D.stopR (id := 29) ?_); (fail_if_success with_reducible refine D.stopS (id := 29) ?_); first | ((with_reducible refine D.blk ?_); refine AW.block ?_) | refine K.sq (AW.regL ?_) | refine K.sq (K.sq ?_) | refine AW.regL ?_ | refine AW.condT rfl ?_ | refine AW.condF rfl ?_ | refine AW.condS rfl (fun h => ?_) (fun h => ?_) | refine AW.skip ?_) | with_reducible refine K.tN ?_)
    all_goals first
      | exact absurd hp' (by simpa using h)
      | skip
    refine AW.range g.length (fun m => ∀ j, j < m → isFn g t j = false)
      (fun m => ([(0, .ptr 0 0), (1, .s .ty g), (3, .i depth), (6, .ptr 1 0), (8, .ptr 2 0), (176, .i g.length), (177, .i m)], ⟨3, [(0, .var W.cells), (1, .var t.view), (2, .var [.i 0, .i 0, .i 0, .slice .nil (.t .ty []), .slice .nil (.t .tm [])])]⟩))
      (by omega) (fun m => rfl) (fun m => rfl) rfl (by intro j hj; omega) (Weak.mk [some 0, some 1, some 2] _ _ _ rfl rfl rfl rfl (by (repeat' (first | exact trivial | refine And.intro ?_ ?_ | refine ⟨_, rfl, _, rfl, ?_⟩ | exact VLe.refl _)); done) (by (repeat' (first | exact trivial | refine And.intro ?_ ?_ | refine ⟨_, rfl, _, rfl, _, rfl, ?_⟩ | exact VLe.refl _)); done)) ?_ ?_
    · intro m hm hP
      have hm2 : g.length - 1 - m < g.length := by omega
      have hat : at0 g (g.length - 1 - m) = g[g.length - 1 - m] := at0_lt hm2
      have hgs : (g[g.length - 1 - m]).small := hg _ (List.getElem_mem hm2)
      have hstep : ∀ b, isFn g t m = b → b = false → ∀ j, j < m + 1 → isFn g t j = false := fun b hb hf j hj => by
        by_cases hjm : j = m
        · rw [hjm, hb, hf]
        · exact hP j (by omega)
      have hfn : isFn g t m = ((g[g.length - 1 - m]).kind == 4 && decide (at0 (g[g.length - 1 - m]).args 1 = t)) := by simp only [isFn, hat]
      by_cases hk4 : (g[g.length - 1 - m]).kind = 4
      · obtain ⟨p, q, hpq⟩ := Ty.args_two hgs.1 (.inr hk4)
        have l0 : 0 < (g[g.length - 1 - m]).args.length := by rw [hpq]; simp
        have l1 : 1 < (g[g.length - 1 - m]).args.length := by rw [hpq]; simp
        have sm := sameTy_c _ ((g[g.length - 1 - m]).args[1]) t (Nat.le_refl _) (by
          have h1 := lsum_mem Ty.size (List.getElem_mem l1)
          have h2 := (g[g.length - 1 - m]).size_eq
          have h3 := hgs.2
          omega)
        have ha1 : at0 (g[g.length - 1 - m]).args 1 = (g[g.length - 1 - m]).args[1] := at0_lt l1
        have ha0 : at0 (g[g.length - 1 - m]).args 0 = (g[g.length - 1 - m]).args[0] := at0_lt l0
        rw [ha1, beq_iff_eq.2 hk4, Bool.true_and] at hfn
        have sm0 : ((g[g.length - 1 - m]).args[0]).small := by
          have h1 := lsum_mem Ty.size (List.getElem_mem l0)
          have h2 := (g[g.length - 1 - m]).size_eq
          have h3 := hgs.2
          have h4 := hgs.1
          rw [Ty.shape_eq, Bool.and_eq_true] at h4
          exact ⟨List.all_eq_true.1 h4.2 _ (List.getElem_mem l0), by omega⟩
        have a := hH W g ((g[g.length - 1 - m]).args[0]) hD hg sm0 (by omega)
        have fa := hF W g ((g[g.length - 1 - m]).args[0]) hg sm0
        have vc := var_c m
        have c1 := n_c 3 [vT m, (Dk.tm n W g ((g[g.length - 1 - m]).args[0])).1] (by simp [vT, Tm.full, Tm.fulls, Ty.size, Ty.sizes]; omega)
        repeat' (first | ((with_reducible refine D.nil ?_); refine AX.nilL ?_) | ((with_reducible refine D.move ?_); refine L.mv rfl rfl rfl ?_) | ((with_reducible refine D.assign ?_); refine L.asg rfl rfl rfl ?_) | ((with_reducible refine D.bin ?_); refine L.sb rfl rfl rfl rfl (by omega) ?_) | ((with_reducible refine D.call ?_); refine L.lnt rfl rfl rfl rfl ?_) | ((with_reducible refine D.aw ?_); (fail_if_success with_reducible refine D.stopR (id := 29) ?_); (fail_if_success with_reducible refine D.stopS (id := 29) ?_); refine K.sq (AW.regL ?_)) | with_reducible refine K.tN ?_)
        refine L.ixt (g.length - 1 - m) rfl rfl rfl rfl (by omega) rfl rfl hm2 ?_
        repeat' (first | ((with_reducible refine D.nil ?_); first | refine AX.nilL ?_ | refine AX.nilD (by kernel_rfl) ?_) | ((with_reducible refine D.load ?_); first | refine L.ldb rfl rfl rfl rfl rfl rfl ?_ | refine L.lda rfl rfl rfl rfl rfl ?_ | refine AX.sk rfl rfl ?_) | ((with_reducible refine D.move ?_); refine L.mv rfl rfl rfl ?_) | ((with_reducible refine D.fieldAddr ?_); first | refine L.fab rfl rfl rfl rfl rfl ?_ | refine AX.sk rfl rfl ?_ | ((fail_if_success refine AX.wt rfl ?_); refine AX.gs rfl rfl (fun _ => trivial) (fun h => ?_) (fun h => ?_))) | ((with_reducible refine D.bin ?_); first | refine L.sb rfl rfl rfl rfl (by omega) ?_ | refine L.bn rfl rfl rfl rfl rfl ?_) | ((with_reducible refine D.call ?_); first | refine L.c2 (sm) rfl rfl rfl rfl ?_ | refine L.c2 (vc) rfl rfl rfl rfl ?_ | (apply L.cb2 (a) [0] 0 rfl; rfl; rfl; rfl; rfl; rfl; rfl; (focus ((repeat' (first | exact trivial | refine And.intro ?_ ?_ | refine ⟨_, rfl, _, rfl, _, rfl, ?_⟩ | exact VLe.refl _)); done)); rfl; rfl; rfl; rfl) | refine L.c2 (c1) rfl rfl rfl rfl ?_ | refine AX.sk rfl rfl ?_) | ((with_reducible refine D.alloc ?_); refine L.al rfl rfl rfl ?_) | ((with_reducible refine D.store ?_); refine L.st rfl rfl rfl rfl rfl rfl rfl rfl rfl ?_) | ((with_reducible refine D.indexAddr ?_); first | refine L.ixt _ rfl rfl rfl rfl rfl rfl rfl (by first | assumption | (simp at *; omega)) ?_ | refine AX.sk rfl rfl ?_) | ((with_reducible refine D.pick ?_); refine L.pk rfl rfl rfl rfl ?_) | ((with_reducible refine D.ax ?_); refine L.bs2 rfl rfl rfl rfl rfl (EC.fold_of rfl) rfl rfl rfl (EC.fold_of rfl) rfl rfl ?_) | ((with_reducible refine D.aw ?_); (fail_if_success with_reducible refine D.stopR (id := 29) ?_); (fail_if_success with_reducible refine D.stopS (id := 29) ?_); first | refine K.sq (AW.regD mixed (by kernel_rfl) ?_) | refine AW.condF rfl ?_ | refine AW.condS rfl (fun h => ?_) (fun h => ?_) | refine AW.skip ?_ | refine AW.ret ?_) | with_reducible refine K.tN ?_ | with_reducible refine K.bN ?_ | with_reducible refine K.tR ?_ | with_reducible refine K.bR ?_ | with_reducible refine K.gR ?_)
        · have hf : isFn g t m = true := hfn.trans h
          have e2 : W.m5 (Dk.tm n) (decide (2 ≤ n)) g t = (apT (vT m) (Dk.tm n W g ((g[g.length - 1 - m]).args[0])).1, (Dk.tm n W g ((g[g.length - 1 - m]).args[0])).2) := by unfold Dk.m5; rw [findF_at hm hP hf]; simp only [hat, ha0]
          rw [e2] at e
          (exact K.n2 [some 0] rfl rfl rfl rfl rfl (by (repeat' (first | exact trivial | refine And.intro ?_ ?_ | refine ⟨_, rfl, _, rfl, _, rfl, ?_⟩ | exact VLe.of_eq (by simp [Sto.upd, e, apT, vT]))); done) rfl (by simp [tupV, V.wk, V.wks, constV, Ty.view, Tm.view, e, apT, vT]))
        · exact ⟨rfl, hstep _ hfn h, (Weak.mk [some 0, some 1, some 2] _ _ _ rfl rfl rfl rfl (by (repeat' (first | exact trivial | refine And.intro ?_ ?_ | refine ⟨_, rfl, _, rfl, ?_⟩ | exact VLe.refl _)); done) (by (repeat' (first | exact trivial | refine And.intro ?_ ?_ | refine ⟨_, rfl, _, rfl, _, rfl, ?_⟩ | exact VLe.refl _)); done))⟩
        · exact absurd hk4 (by simpa using h)
      · repeat' (first | ((with_reducible refine D.nil ?_); refine AX.nilL ?_) | ((with_reducible refine D.move ?_); refine L.mv rfl rfl rfl ?_) | ((with_reducible refine D.assign ?_); refine L.asg rfl rfl rfl ?_) | ((with_reducible refine D.bin ?_); refine L.sb rfl rfl rfl rfl (by omega) ?_) | ((with_reducible refine D.call ?_); refine L.lnt rfl rfl rfl rfl ?_) | ((with_reducible refine D.aw ?_); (fail_if_success with_reducible refine D.stopR (id := 29) ?_); (fail_if_success with_reducible refine D.stopS (id := 29) ?_); refine K.sq (AW.regL ?_)) | with_reducible refine K.tN ?_)
        refine L.ixt (g.length - 1 - m) rfl rfl rfl rfl (by omega) rfl rfl hm2 ?_
        repeat' (first | ((with_reducible refine D.nil ?_); first | refine AX.nilL ?_ | refine AX.nilD (by kernel_rfl) ?_) | ((with_reducible refine D.load ?_); first | refine L.ldb rfl rfl rfl rfl rfl rfl ?_ | refine L.lda rfl rfl rfl rfl rfl ?_ | refine AX.sk rfl rfl ?_) | ((with_reducible refine D.move ?_); refine L.mv rfl rfl rfl ?_) | ((with_reducible refine D.fieldAddr ?_); first | refine L.fab rfl rfl rfl rfl rfl ?_ | refine AX.sk rfl rfl ?_ | ((fail_if_success refine AX.wt rfl ?_); refine AX.gs rfl rfl (fun _ => trivial) (fun h => ?_) (fun h => ?_))) | ((with_reducible refine D.bin ?_); refine L.bn rfl rfl rfl rfl rfl ?_) | ((with_reducible refine D.call ?_); refine AX.sk rfl rfl ?_) | ((with_reducible refine D.alloc ?_); refine L.al rfl rfl rfl ?_) | ((with_reducible refine D.store ?_); refine L.st rfl rfl rfl rfl rfl rfl rfl rfl rfl ?_) | ((with_reducible refine D.indexAddr ?_); first | refine L.ixt _ rfl rfl rfl rfl rfl rfl rfl (by (simp at *; omega)) ?_ | refine AX.sk rfl rfl ?_) | ((with_reducible refine D.pick ?_); refine L.pk rfl rfl rfl rfl ?_) | ((with_reducible refine D.aw ?_); (fail_if_success with_reducible refine D.stopR (id := 29) ?_); (fail_if_success with_reducible refine D.stopS (id := 29) ?_); first | refine K.sq (AW.regD mixed (by kernel_rfl) ?_) | refine AW.condF rfl ?_ | refine AW.skip ?_) | with_reducible refine K.tN ?_ | with_reducible refine K.bN ?_)
        · exact absurd (by simpa using h) hk4
        · have hk4' : ((g[g.length - 1 - m]).kind == 4) = false := by simpa using hk4
          rw [hk4', Bool.false_and] at hfn
          exact ⟨rfl, hstep _ hfn rfl, (Weak.mk [some 0, some 1, some 2] _ _ _ rfl rfl rfl rfl (by (repeat' (first | exact trivial | refine And.intro ?_ ?_ | refine ⟨_, rfl, _, rfl, ?_⟩ | exact VLe.refl _)); done) (by (repeat' (first | exact trivial | refine And.intro ?_ ?_ | refine ⟨_, rfl, _, rfl, _, rfl, ?_⟩ | exact VLe.refl _)); done))⟩
    · intro hP
      repeat' (first | with_reducible refine K.tN ?_ | with_reducible refine K.bN ?_)
      have e2 : W.m5 (Dk.tm n) (decide (2 ≤ n)) g t = W.fin (Dk.tm n) (decide (2 ≤ n)) g t := by unfold Dk.m5; rw [findF_none' hP]
      rw [e, e2]; exact AW.weak (Weak.mk [some 0, some 1, some 2] _ _ _ rfl rfl rfl rfl (by (repeat' (first | exact trivial | refine And.intro ?_ ?_ | refine ⟨_, rfl, _, rfl, ?_⟩ | exact VLe.refl _)); done) (by (repeat' (first | exact trivial | refine And.intro ?_ ?_ | refine ⟨_, rfl, _, rfl, _, rfl, ?_⟩ | exact VLe.refl _)); done)) (fin_c n H hn depth hdep W hD g t hg ht h0 hl)
  rw [if_neg k5] at e
  have n0 : (kk == 0) = false := by simpa using k0
  repeat' (first | ((with_reducible refine D.nil ?_); refine AX.nilL ?_) | ((with_reducible refine D.move ?_); refine L.mv rfl rfl rfl ?_) | ((with_reducible refine D.assign ?_); refine L.asg rfl rfl rfl ?_) | ((with_reducible refine D.bin ?_); refine L.bn rfl rfl rfl rfl rfl ?_) | ((with_reducible refine D.call ?_); first | refine L.lnt rfl rfl rfl rfl ?_ | (apply L.cb2 (hx8) [0] 0 rfl; rfl; rfl; rfl; rfl; rfl; rfl; (focus ((repeat' (first | exact trivial | refine And.intro ?_ ?_ | refine ⟨_, rfl, _, rfl, _, rfl, ?_⟩ | exact VLe.refl _)); done)); rfl; rfl; rfl; rfl)) | ((with_reducible refine D.aw ?_); (fail_if_success with_reducible refine D.stopR (id := 29) ?_); (fail_if_success with_reducible refine D.stopS (id := 29) ?_); first | ((with_reducible refine D.blk ?_); refine AW.block ?_) | refine K.sq (AW.regL ?_) | refine K.sq (AW.regD mixed (by kernel_rfl) ?_) | refine K.sq (K.sq ?_) | refine AW.regL ?_ | refine AW.condS rfl (fun h => ?_) (fun h => ?_) | refine AW.skip ?_) | with_reducible refine K.tN ?_ | with_reducible refine K.bN ?_)
  all_goals first
    | exact absurd hp' (by simpa using h)
    | exact absurd (by simpa using h) k0
    | exact absurd (by simpa using h) k1
    | exact absurd (by simpa using h) k2
    | exact absurd (by simpa using h) k3
    | exact absurd (by simpa using h) k4
    | exact absurd (by simpa using h) k5
    | (rw [e]; exact AW.weak (Weak.mk [some 0, some 1, some 2] _ _ _ rfl rfl rfl rfl (by (repeat' (first | exact trivial | refine And.intro ?_ ?_ | refine ⟨_, rfl, _, rfl, ?_⟩ | exact VLe.refl _)); done) (by (repeat' (first | exact trivial | refine And.intro ?_ ?_ | refine ⟨_, rfl, _, rfl, _, rfl, ?_⟩ | exact VLe.refl _)); done)) (fin_c n H hn depth hdep W hD g t hg ht h0 hl))
theorem gen_c (n : Nat) (H : HT n) (hn : n ≤ 7) (depth : Int) (hdep : depth = (n : Int) - 1) (d : Dk) (hd : d.ok) (g : List Ty) (t : Ty) (hg : smalls g) (ht : t.small) (h0 : n = 0 → t.size = 1) (hl : g.length + 3 * (n + 1) ≤ 10000) :
    AC E 14 [.ptr 0 0, .s .ty g, .agg t.view, .i depth] ⟨1, [(0, .var d.cells)]⟩ (.agg (d.gen (Dk.tm n) (decide (2 ≤ n)) g t).1.view) ⟨1, [(0, .var (d.gen (Dk.tm n) (decide (2 ≤ n)) g t).2.cells)]⟩ := by
  have hsum := smalls_sum hg
  have hvl : (varsT g t).length ≤ g.length := by
    simp only [varsT, List.length_map]
    have := List.length_filter_le (fun i => decide (g[g.length - 1 - i]? = some t)) (List.range g.length)
    simpa using this
  have hv := vars_c g t (by omega)
  have hx3 := next_c d 3 hd (by omega)
  have hd3 := Dk.next_ok hd 3
  have hxl := next_c (d.next 3).2 (varsT g t).length hd3 (by omega)
  have m1 := mid_c n H hn depth hdep d hd g t hg ht h0 hl
  have m2 := mid_c n H hn depth hdep (d.next 3).2 hd3 g t hg ht h0 hl
  have hvar := var_c
  by_cases he : varsT g t = []
  · have e : d.gen (Dk.tm n) (decide (2 ≤ n)) g t = d.mid (Dk.tm n) (decide (2 ≤ n)) g t := by unfold Dk.gen; rw [if_pos he]
    have hl0 : ¬ (((varsT g t).length : Int) > 0) := by rw [he]; simp
    refine AC.mk Tryd.func14 rfl rfl rfl rfl rfl (Nat.le_of_ble_eq_true rfl) ?_
    repeat' (first | ((with_reducible refine D.nil ?_); refine AX.nilL ?_) | ((with_reducible refine D.load ?_); refine L.ldb rfl rfl rfl rfl rfl rfl ?_) | ((with_reducible refine D.move ?_); first | refine L.mv rfl rfl rfl ?_ | refine AX.sk rfl rfl ?_ | ((fail_if_success refine AX.wt rfl ?_); refine AX.gs rfl rfl (fun _ => trivial) (fun h => ?_) (fun h => ?_))) | ((with_reducible refine D.assign ?_); refine L.asg rfl rfl rfl ?_) | ((with_reducible refine D.bin ?_); first | refine L.bn rfl rfl rfl rfl rfl ?_ | refine AX.sk rfl rfl ?_) | ((with_reducible refine D.call ?_); first | refine L.lnt rfl rfl rfl rfl ?_ | refine L.c2 (hv) rfl rfl rfl rfl ?_ | (apply L.cb2 (hx3) [0] 0 rfl; rfl; rfl; rfl; rfl; rfl; rfl; (focus ((repeat' (first | exact trivial | refine And.intro ?_ ?_ | refine ⟨_, rfl, _, rfl, _, rfl, ?_⟩ | exact VLe.refl _)); done)); rfl; rfl; rfl; rfl) | refine AX.sk rfl rfl ?_) | ((with_reducible refine D.box ?_); refine L.bx rfl rfl rfl rfl ?_) | ((with_reducible refine D.alloc ?_); refine L.al rfl rfl rfl ?_) | ((with_reducible refine D.pick ?_); refine L.pk rfl rfl rfl rfl ?_) | ((with_reducible refine D.aw ?_); (fail_if_success with_reducible refine D.stopR (id := 4) ?_); (fail_if_success with_reducible refine D.stopS (id := 4) ?_); first | refine K.sq (AW.regL ?_) | refine K.sq (K.sq ?_) | refine AW.regL ?_ | refine AW.condF rfl ?_ | refine AW.condS rfl (fun h => ?_) (fun h => ?_) | refine AW.skip ?_) | with_reducible refine K.tN ?_)
    · rename_i h1; exact absurd (by simpa using h1) hl0
    · rename_i h1; exact absurd (by simpa using h1) hl0
    · rw [e]; exact AW.weak (Weak.mk [some 0, some 1, some 2] _ _ _ rfl rfl rfl rfl (by (repeat' (first | exact trivial | refine And.intro ?_ ?_ | refine ⟨_, rfl, _, rfl, ?_⟩ | exact VLe.refl _)); done) (by (repeat' (first | exact trivial | refine And.intro ?_ ?_ | refine ⟨_, rfl, _, rfl, _, rfl, ?_⟩ | exact VLe.refl _)); done)) m1
  · have e : d.gen (Dk.tm n) (decide (2 ≤ n)) g t = if 0 < (d.next 3).1 then (vT ((varsT g t).getD ((d.next 3).2.next (varsT g t).length).1.toNat 0), ((d.next 3).2.next (varsT g t).length).2) else (d.next 3).2.mid (Dk.tm n) (decide (2 ≤ n)) g t := by unfold Dk.gen; rw [if_neg he]
    have hlp : 0 < (varsT g t).length := List.length_pos_iff.2 he
    have hl0 : ((varsT g t).length : Int) > 0 := by omega
    have hbl := Dk.next_bd (d.next 3).2 (varsT g t).length hl0
    have hlt : ((d.next 3).2.next (varsT g t).length).1.toNat < (varsT g t).length := by omega
    refine AC.mk Tryd.func14 rfl rfl rfl rfl rfl (Nat.le_of_ble_eq_true rfl) ?_
    repeat' (first | ((with_reducible refine D.nil ?_); refine AX.nilL ?_) | ((with_reducible refine D.load ?_); refine L.ldb rfl rfl rfl rfl rfl rfl ?_) | ((with_reducible refine D.move ?_); first | refine L.mv rfl rfl rfl ?_ | refine AX.sk rfl rfl ?_ | ((fail_if_success refine AX.wt rfl ?_); refine AX.gs rfl rfl (fun _ => trivial) (fun h => ?_) (fun h => ?_))) | ((with_reducible refine D.assign ?_); refine L.asg rfl rfl rfl ?_) | ((with_reducible refine D.bin ?_); first | refine L.bn rfl rfl rfl rfl rfl ?_ | refine AX.sk rfl rfl ?_) | ((with_reducible refine D.call ?_); first | refine L.lnt rfl rfl rfl rfl ?_ | refine L.c2 (hv) rfl rfl rfl rfl ?_ | (apply L.cb2 (hx3) [0] 0 rfl; rfl; rfl; rfl; rfl; rfl; rfl; (focus ((repeat' (first | exact trivial | refine And.intro ?_ ?_ | refine ⟨_, rfl, _, rfl, _, rfl, ?_⟩ | exact VLe.refl _)); done)); rfl; rfl; rfl; rfl) | (apply L.cb2 (hxl) [0] 0 rfl; rfl; rfl; rfl; rfl; rfl; rfl; (focus ((repeat' (first | exact trivial | refine And.intro ?_ ?_ | refine ⟨_, rfl, _, rfl, _, rfl, ?_⟩ | exact VLe.refl _)); done)); rfl; rfl; rfl; rfl) | refine AX.sk rfl rfl ?_) | ((with_reducible refine D.box ?_); refine L.bx rfl rfl rfl rfl ?_) | ((with_reducible refine D.alloc ?_); refine L.al rfl rfl rfl ?_) | ((with_reducible refine D.pick ?_); refine L.pk rfl rfl rfl rfl ?_) | ((with_reducible refine D.aw ?_); (fail_if_success with_reducible refine D.stopR (id := 4) ?_); (fail_if_success with_reducible refine D.stopS (id := 4) ?_); first | refine K.sq (AW.regL ?_) | refine K.sq (K.sq ?_) | refine AW.regL ?_ | refine AW.condF rfl ?_ | refine AW.condS rfl (fun h => ?_) (fun h => ?_) | refine AW.skip ?_) | with_reducible refine K.tN ?_)
    · refine L.ixt ((d.next 3).2.next (varsT g t).length).1.toNat rfl rfl rfl rfl (by omega) rfl rfl hlt ?_
      have eg : (varsT g t).getD ((d.next 3).2.next (varsT g t).length).1.toNat 0 = (varsT g t)[((d.next 3).2.next (varsT g t).length).1.toNat] := by simp [List.getD_eq_getElem?_getD, hlt]
      rw [if_pos (by simpa using h), eg] at e
      repeat' (first | ((with_reducible refine D.nil ?_); refine AX.nilL ?_) | ((with_reducible refine D.load ?_); refine L.lda rfl rfl rfl rfl rfl ?_) | ((with_reducible refine D.call ?_); refine L.c2 (hvar _) rfl rfl rfl rfl ?_) | ((with_reducible refine D.store ?_); refine L.st rfl rfl rfl rfl rfl rfl rfl rfl rfl ?_) | ((with_reducible refine D.aw ?_); refine AW.ret ?_) | with_reducible refine K.tN ?_ | with_reducible refine K.tR ?_)
      (exact K.n2 [some 0] rfl rfl rfl rfl rfl (by (repeat' (first | exact trivial | refine And.intro ?_ ?_ | refine ⟨_, rfl, _, rfl, _, rfl, ?_⟩ | exact VLe.of_eq (by simp [Sto.upd, e, vT]))); done) rfl (by simp [tupV, V.wk, V.wks, constV, Ty.view, Tm.view, e, vT]))
    · rw [e, if_neg (by simpa using h)]; exact AW.weak (Weak.mk [some 0, some 1, some 2] _ _ _ rfl rfl rfl rfl (by (repeat' (first | exact trivial | refine And.intro ?_ ?_ | refine ⟨_, rfl, _, rfl, ?_⟩ | exact VLe.refl _)); done) (by (repeat' (first | exact trivial | refine And.intro ?_ ?_ | refine ⟨_, rfl, _, rfl, _, rfl, ?_⟩ | exact VLe.refl _)); done)) m2
    · exact absurd hl0 (by simpa using h)
theorem term_c : ∀ n, n ≤ 8 → HT n
  | 0, _ => fun d g t k _ _ _ _ h => by omega
  | n + 1, hn => fun d g t k hk hd hg ht _ h1 hl => gen_c n (term_c n (by omega)) (by omega) k (by omega) d hd g t hg ht (by omega) hl
end Go.Ab
namespace Go.Ab
open Go Go.Proofs
set_option maxRecDepth 100000
set_option maxHeartbeats 4000000
set_option linter.all false
theorem typed_c' (g : List Ty) (t : Tm) (ht : t.full < 137438953472) (hg : ∀ x ∈ g, x.err = 0) (hl : g.length < 100000) : PC E 55 [.s .ty g, .agg t.view] (.tup [.agg (typed g t).1.view, .i (typed g t).2]) := by
  have h1 := checkTmR_c t (by omega)
  have h2 : t.err = 0 → _ := fun h => infer_c _ t g (Nat.le_refl _) (by omega) ((Tm.err_iff t).1 h).1 hg (by omega)
  refine AC.mk Tryd.func55 rfl rfl rfl rfl rfl (Nat.le_of_ble_eq_true rfl) ?_
  repeat' (first | ((with_reducible refine D.nil ?_); refine AX.nilL ?_) | ((with_reducible refine D.load ?_); refine L.ldb rfl rfl rfl rfl rfl rfl ?_) | ((with_reducible refine D.move ?_); refine L.mv rfl rfl rfl ?_) | ((with_reducible refine D.assign ?_); refine L.asg rfl rfl rfl ?_) | ((with_reducible refine D.bin ?_); refine L.bn rfl rfl rfl rfl rfl ?_) | ((with_reducible refine D.call ?_); first | refine L.c2 (h1) rfl rfl rfl rfl ?_ | refine L.c2 (h2 (by simpa using h)) rfl rfl rfl rfl ?_) | ((with_reducible refine D.extract ?_); refine L.ex rfl rfl rfl rfl ?_) | ((with_reducible refine D.box ?_); refine L.bx rfl rfl rfl rfl ?_) | ((with_reducible refine D.alloc ?_); refine L.al rfl rfl rfl ?_) | ((with_reducible refine D.store ?_); refine L.st rfl rfl rfl rfl rfl rfl rfl rfl rfl ?_) | ((with_reducible refine D.ax ?_); refine L.bd rfl rfl rfl rfl rfl ?_) | ((with_reducible refine D.aw ?_); first | refine K.sq (AW.regL ?_) | refine K.sq (K.sq ?_) | refine AW.regL ?_ | refine AW.condS rfl (fun h => ?_) (fun h => ?_) | refine AW.skip ?_ | refine AW.ret ?_) | with_reducible refine K.tN ?_ | with_reducible refine K.tR ?_ | with_reducible refine K.r1 (by with_unfolding_all rfl) (by with_unfolding_all rfl) ?_)
  · have h' : t.err ≠ 0 := by simpa using h
    simp [tupV, V.wk, V.wks, constV, Ty.view, typed, h', noTy]
  · have h' : t.err = 0 := by simpa using h
    simp [tupV, V.wk, V.wks, constV, Ty.view, typed, h']
theorem typeOf_c (g : List Ty) (t : Tm) (ht : t.full < 137438953472) (hg : (g.map Ty.size).sum < 1099511627776) : PC E 16 [.s .ty g, .agg t.view] (.tup [.agg (typeOf g t).1.view, .i (typeOf g t).2]) := by
  have h1 := contextR_c g hg
  have h2 : ctxErr g = 0 → _ := fun h => typed_c' g t ht (ctxErr_all h).2 (by have := (ctxErr_all h).1; omega)
  refine AC.mk Tryd.func16 rfl rfl rfl rfl rfl (Nat.le_of_ble_eq_true rfl) ?_
  repeat' (first | ((with_reducible refine D.nil ?_); refine AX.nilL ?_) | ((with_reducible refine D.load ?_); refine L.ldb rfl rfl rfl rfl rfl rfl ?_) | ((with_reducible refine D.move ?_); refine L.mv rfl rfl rfl ?_) | ((with_reducible refine D.assign ?_); refine L.asg rfl rfl rfl ?_) | ((with_reducible refine D.bin ?_); refine L.bn rfl rfl rfl rfl rfl ?_) | ((with_reducible refine D.call ?_); first | refine L.c2 (h1) rfl rfl rfl rfl ?_ | refine L.c2 (h2 (by simpa using h)) rfl rfl rfl rfl ?_) | ((with_reducible refine D.extract ?_); refine L.ex rfl rfl rfl rfl ?_) | ((with_reducible refine D.box ?_); refine L.bx rfl rfl rfl rfl ?_) | ((with_reducible refine D.alloc ?_); refine L.al rfl rfl rfl ?_) | ((with_reducible refine D.store ?_); refine L.st rfl rfl rfl rfl rfl rfl rfl rfl rfl ?_) | ((with_reducible refine D.ax ?_); refine L.bd rfl rfl rfl rfl rfl ?_) | ((with_reducible refine D.aw ?_); first | refine K.sq (AW.regL ?_) | refine K.sq (K.sq ?_) | refine AW.regL ?_ | refine AW.condS rfl (fun h => ?_) (fun h => ?_) | refine AW.skip ?_ | refine AW.ret ?_) | with_reducible refine K.tN ?_ | with_reducible refine K.tR ?_ | with_reducible refine K.r1 (by with_unfolding_all rfl) (by with_unfolding_all rfl) ?_)
  · have h' : ctxErr g ≠ 0 := by simpa using h
    simp [tupV, V.wk, V.wks, constV, Ty.view, typeOf, h', noTy]
  · have h' : ctxErr g = 0 := by simpa using h
    simp [tupV, V.wk, V.wks, constV, Ty.view, typeOf, h']
theorem sameTy_r (x : Ty) (h : x.size < 1099511627776) : PC E 18 [.agg x.view, .agg x.view] (.bool true) := by
  have := sameTy_c _ x x (Nat.le_refl _) h
  simpa using this
theorem sameTm_r (x : Tm) (h : x.full < 1099511627776) : PC E 35 [.agg x.view, .agg x.view] (.bool true) := by
  have := sameTm_c _ x x (Nat.le_refl _) h
  simpa using this
theorem sane03_c : PC E 9 [] (.bool true) := by
  have hv0 := var_c 0
  have hv1 := var_c 1
  have hv3 := var_c 3
  have hv4 := var_c 4
  have hs := n_c 5 [vT 0] (by decide)
  have hz := n_c 4 [] (by decide)
  have hsz := n_c 5 [zT] (by decide)
  have ht1 := t_c 2 natT [vT 1] (by decide) (by decide)
  have ht4 := t_c 2 natT [vT 4] (by decide) (by decide)
  have p1 := substPut_c (sT (vT 0)) 0 zT (by decide) (by decide)
  have p2 := substPut_c (lmT natT (vT 1)) 0 (vT 3) (by decide) (by decide)
  have e1 : putErr (sT (vT 0)) 0 zT = 0 := by decide
  have e2 : putErr (lmT natT (vT 1)) 0 (vT 3) = 0 := by decide
  have r1 : (sT (vT 0)).re (putG 0 zT) 0 = sT zT := by decide
  have r2 : (lmT natT (vT 1)).re (putG 0 (vT 3)) 0 = lmT natT (vT 4) := by decide
  rw [e1, if_pos rfl, r1] at p1
  rw [e2, if_pos rfl, r2] at p2
  have q1 := sameTm_r (sT zT) (by decide)
  have q2 := sameTm_r (lmT natT (vT 4)) (by decide)
  refine AC.mk Tryd.func9 rfl rfl rfl rfl rfl (Nat.le_of_ble_eq_true rfl) ?_
  repeat' (first | ((with_reducible refine D.nil ?_); first | refine AX.nilL ?_ | refine AX.nilD (by kernel_rfl) ?_) | ((with_reducible refine D.load ?_); refine L.ldb rfl rfl rfl rfl rfl rfl ?_) | ((with_reducible refine D.move ?_); refine L.mv rfl rfl rfl ?_) | ((with_reducible refine D.assign ?_); refine L.asg rfl rfl rfl ?_) | ((with_reducible refine D.bin ?_); refine L.bn rfl rfl rfl rfl rfl ?_) | ((with_reducible refine D.call ?_); first | refine L.c2 (hv0) rfl rfl rfl rfl ?_ | refine L.c2 (hv1) rfl rfl rfl rfl ?_ | refine L.c2 (hv3) rfl rfl rfl rfl ?_ | refine L.c2 (hv4) rfl rfl rfl rfl ?_ | refine L.c2 (nat_c) rfl rfl rfl rfl ?_ | refine L.c2 (hs) rfl rfl rfl rfl ?_ | refine L.c2 (hz) rfl rfl rfl rfl ?_ | refine L.c2 (hsz) rfl rfl rfl rfl ?_ | refine L.c2 (ht1) rfl rfl rfl rfl ?_ | refine L.c2 (ht4) rfl rfl rfl rfl ?_ | refine L.c2 (p1) rfl rfl rfl rfl ?_ | refine L.c2 (p2) rfl rfl rfl rfl ?_ | refine L.c2 (q1) rfl rfl rfl rfl ?_ | refine L.c2 (q2) rfl rfl rfl rfl ?_) | ((with_reducible refine D.extract ?_); refine L.ex rfl rfl rfl rfl ?_) | ((with_reducible refine D.alloc ?_); refine L.al rfl rfl rfl ?_) | ((with_reducible refine D.store ?_); refine L.st rfl rfl rfl rfl rfl rfl rfl rfl rfl ?_) | ((with_reducible refine D.pick ?_); refine L.pk rfl rfl rfl rfl ?_) | ((with_reducible refine D.ax ?_); refine L.bs1 rfl rfl rfl rfl rfl (EC.fold_of rfl) rfl rfl ?_) | ((with_reducible refine D.aw ?_); first | refine K.sq (AW.regL ?_) | refine K.sq (AW.regD mixed (by kernel_rfl) ?_) | refine AW.ret ?_) | with_reducible refine K.tN ?_ | with_reducible refine K.r1 (by with_unfolding_all rfl) (by with_unfolding_all rfl) ?_)
  all_goals rfl
end Go.Ab
namespace Go.Ab
open Go Go.Proofs
set_option maxRecDepth 100000
set_option maxHeartbeats 4000000
set_option linter.all false
theorem few_t (l : List Int) (h : l.length ≤ 500) : PC E 10 [.s .int l] (.bool true) := by
  have := few_c l
  rwa [decide_eq_true h] at this
theorem few_f (l : List Int) (h : ¬ l.length ≤ 500) : PC E 10 [.s .int l] (.bool false) := by
  have := few_c l
  rwa [decide_eq_false h] at this
theorem type1_c (d : Dk) (h : d.ok) : AC E 13 [.ptr 0 0, .i 1] ⟨1, [(0, .var d.cells)]⟩ (.agg (d.type 1).1.view) ⟨1, [(0, .var (d.type 1).2.cells)]⟩ := type_c 1 1 d (by omega) (by omega) (by omega) h
theorem deck_ok {l : List Int} (h : l.length ≤ 500) : (Dk.mk l 0).ok := ⟨Nat.zero_le _, by simp only; omega⟩
theorem substTypes_c (l : List Int) : PC E 3 [.s .int l] (.bool true) := by
  by_cases hl : l.length ≤ 500
  case neg =>
    have hf := few_f l hl
    refine AC.mk Tryd.func3 rfl rfl rfl rfl rfl (Nat.le_of_ble_eq_true rfl) ?_
    repeat' (first | ((with_reducible refine D.nil ?_); refine AX.nilL ?_) | ((with_reducible refine D.move ?_); refine L.mv rfl rfl rfl ?_) | ((with_reducible refine D.assign ?_); refine L.asg rfl rfl rfl ?_) | ((with_reducible refine D.call ?_); first | refine L.c2 (sane03_c) rfl rfl rfl rfl ?_ | refine L.c2 (hf) rfl rfl rfl rfl ?_) | ((with_reducible refine D.not ?_); refine L.nt rfl rfl rfl ?_) | ((with_reducible refine D.aw ?_); first | refine K.sq (AW.regL ?_) | refine K.sq (K.sq ?_) | refine AW.regL ?_ | refine AW.condT rfl ?_ | refine AW.condF rfl ?_ | refine AW.skip ?_ | refine AW.ret ?_) | with_reducible refine K.tN ?_ | with_reducible refine K.tR ?_ | with_reducible refine K.r1 (by with_unfolding_all rfl) (by with_unfolding_all rfl) ?_)
    rfl
  have hf := few_t l hl
  have hn := new_c l
  have d0 := deck_ok hl
  have hc := context_c (Dk.mk l 0) d0
  have hg := Dk.ctx_smalls (Dk.mk l 0)
  have hgl := Dk.ctx_len (Dk.mk l 0)
  have d1 := Dk.ctx_ok d0
  generalize (Dk.mk l 0).ctx.1 = g at *
  generalize (Dk.mk l 0).ctx.2 = D1 at *
  have ts := type1_c D1 d1
  have hs := Dk.type1 D1
  have d2 := Dk.type_ok 1 D1 d1
  generalize (D1.type 1).1 = s at *
  generalize (D1.type 1).2 = D2 at *
  have tu := type1_c D2 d2
  have hu := Dk.type1 D2
  have d3 := Dk.type_ok 1 D2 d2
  generalize (D2.type 1).1 = u at *
  generalize (D2.type 1).2 = D3 at *
  have tv := type1_c D3 d3
  have hv := Dk.type1 D3
  have d4 := Dk.type_ok 1 D3 d3
  generalize (D3.type 1).1 = v at *
  generalize (D3.type 1).2 = D4 at *
  have gs := smalls_app hg (smalls_cons hs smalls_nil)
  have gv := smalls_app hg (smalls_cons hv smalls_nil)
  have tx := term_c 5 (by omega) D4 (g ++ [s]) u 3 (by omega) d4 gs hu (by omega) (by omega) (by simp; omega)
  have mx := Dk.tm_mk 5 D4 (g ++ [s]) u gs hu (by omega) (by omega)
  have fx := mx.full gs hu
  have d5 := Dk.tm_ok 5 D4 (g ++ [s]) u d4
  generalize (Dk.tm 5 D4 (g ++ [s]) u).1 = x at *
  generalize (Dk.tm 5 D4 (g ++ [s]) u).2 = D5 at *
  have ty := term_c 4 (by omega) D5 g s 2 (by omega) d5 hg hs (by omega) (by omega) (by omega)
  have my := Dk.tm_mk 4 D5 g s hg hs (by omega) (by omega)
  have fy := my.full hg hs
  generalize (Dk.tm 4 D5 g s).1 = y at *
  generalize (Dk.tm 4 D5 g s).2 = D6 at *
  have cp := substPut_c x 0 y (by omega) (by omega)
  have cl := substLift_c y 0 1 (by omega)
  rw [put_ok mx my hg hs hu (by omega), if_pos rfl] at cp
  rw [lift_ok my (by omega) hg hs (by omega), if_pos rfl] at cl
  have e1 := put_type mx my hg hs hu (by omega)
  have e2 := lift_type (v := v) my (by omega) hg hs hv (by omega)
  have fz := put_full 0 y x (my.shape hg hs) 0 (mx.shape gs hu)
  have fw := lift_full 0 1 y 0 (my.shape hg hs)
  have hcn := (mx.cnt gs hu (at_ := 0) (by omega) 0 (by omega)).1
  rw [s_val.2.2] at hcn
  have fm : cnt 0 (x.vars 0) * y.full ≤ 35 * 100000 := Nat.mul_le_mul hcn (by omega)
  have tz := typeOf_c g (x.re (putG 0 y) 0) (by omega) (by have := smalls_sum hg; omega)
  have tw := typeOf_c (g ++ [v]) (y.re (liftG 0 1) 0) (by omega) (by have := smalls_sum gv; simp at this ⊢; omega)
  rw [e1] at tz
  rw [e2] at tw
  have ru := sameTy_r u (by have := hu.2; omega)
  have rs := sameTy_r s (by have := hs.2; omega)
  refine AC.mk Tryd.func3 rfl rfl rfl rfl rfl (Nat.le_of_ble_eq_true rfl) ?_
  repeat' (first | ((with_reducible refine D.nil ?_); first | refine AX.nilL ?_ | refine AX.nilD (by kernel_rfl) ?_) | ((with_reducible refine D.load ?_); refine L.ldb rfl rfl rfl rfl rfl rfl ?_) | ((with_reducible refine D.move ?_); refine L.mv rfl rfl rfl ?_) | ((with_reducible refine D.assign ?_); refine L.asg rfl rfl rfl ?_) | ((with_reducible refine D.bin ?_); refine L.bn rfl rfl rfl rfl rfl ?_) | ((with_reducible refine D.call ?_); first | refine L.apt rfl rfl rfl rfl rfl rfl (by first | exact trivial | exact ⟨rfl, trivial⟩) rfl rfl (by first | omega | (simp; omega)) ?_ | refine L.c2 (sane03_c) rfl rfl rfl rfl ?_ | refine L.c2 (hf) rfl rfl rfl rfl ?_ | (apply L.cb2 (hn) [] 1 rfl; rfl; rfl; rfl; rfl; rfl; rfl; (focus ((repeat' (first | exact trivial)); done)); rfl; rfl; rfl; rfl) | (apply L.cb2 (hc) [0] 0 rfl; rfl; rfl; rfl; rfl; rfl; rfl; (focus ((repeat' (first | exact trivial | refine And.intro ?_ ?_ | refine ⟨_, rfl, _, rfl, _, rfl, ?_⟩ | exact VLe.refl _)); done)); rfl; rfl; rfl; rfl) | (apply L.cb2 (ts) [0] 0 rfl; rfl; rfl; rfl; rfl; rfl; rfl; (focus ((repeat' (first | exact trivial | refine And.intro ?_ ?_ | refine ⟨_, rfl, _, rfl, _, rfl, ?_⟩ | exact VLe.refl _)); done)); rfl; rfl; rfl; rfl) | (apply L.cb2 (tu) [0] 0 rfl; rfl; rfl; rfl; rfl; rfl; rfl; (focus ((repeat' (first | exact trivial | refine And.intro ?_ ?_ | refine ⟨_, rfl, _, rfl, _, rfl, ?_⟩ | exact VLe.refl _)); done)); rfl; rfl; rfl; rfl) | (apply L.cb2 (tv) [0] 0 rfl; rfl; rfl; rfl; rfl; rfl; rfl; (focus ((repeat' (first | exact trivial | refine And.intro ?_ ?_ | refine ⟨_, rfl, _, rfl, _, rfl, ?_⟩ | exact VLe.refl _)); done)); rfl; rfl; rfl; rfl) | (apply L.cb2 (tx) [0] 0 rfl; rfl; rfl; rfl; rfl; rfl; rfl; (focus ((repeat' (first | exact trivial | refine And.intro ?_ ?_ | refine ⟨_, rfl, _, rfl, _, rfl, ?_⟩ | exact VLe.refl _)); done)); rfl; rfl; rfl; rfl) | (apply L.cb2 (ty) [0] 0 rfl; rfl; rfl; rfl; rfl; rfl; rfl; (focus ((repeat' (first | exact trivial | refine And.intro ?_ ?_ | refine ⟨_, rfl, _, rfl, _, rfl, ?_⟩ | exact VLe.refl _)); done)); rfl; rfl; rfl; rfl) | refine L.c2 (cp) rfl rfl rfl rfl ?_ | refine L.c2 (cl) rfl rfl rfl rfl ?_ | refine L.c2 (tz) rfl rfl rfl rfl ?_ | refine L.c2 (tw) rfl rfl rfl rfl ?_ | refine L.c2 (ru) rfl rfl rfl rfl ?_ | refine L.c2 (rs) rfl rfl rfl rfl ?_) | ((with_reducible refine D.extract ?_); refine L.ex rfl rfl rfl rfl ?_) | ((with_reducible refine D.alloc ?_); refine L.al rfl rfl rfl ?_) | ((with_reducible refine D.store ?_); refine L.st rfl rfl rfl rfl rfl rfl rfl rfl rfl ?_) | ((with_reducible refine D.not ?_); refine L.nt rfl rfl rfl ?_) | ((with_reducible refine D.pick ?_); refine L.pk rfl rfl rfl rfl ?_) | ((with_reducible refine D.ax ?_); refine L.bs1 rfl rfl rfl rfl rfl (EC.fold_of rfl) rfl rfl ?_) | ((with_reducible refine D.aw ?_); first | refine K.sq (AW.regL ?_) | refine K.sq (AW.regD mixed (by kernel_rfl) ?_) | refine K.sq (K.sq ?_) | refine AW.regL ?_ | refine AW.condF rfl ?_ | refine AW.skip ?_ | refine AW.ret ?_) | with_reducible refine K.tN ?_ | with_reducible refine K.r1 (by with_unfolding_all rfl) (by with_unfolding_all rfl) ?_)
  rfl
end Go.Ab
