/- A part of the proofs of this seat's statements: S33. It has no conditions of its own. -/
import Derived.Test.YtgonpippjmmipaaDoorS2
import Derived.Test.YtgonpippjmmipaaDoorD1
namespace Go.Ab
open Go Go.Proofs
set_option maxRecDepth 100000
set_option maxHeartbeats 4000000
set_option linter.all false
theorem result_c (r : Ty) (l : List Ty) (hk : r.kind ≠ 4) (he : (funs r l).err = 0) (hs : (funs r l).size ≤ 64) : PC E 27 [.agg (funs r l).view] (.tup [.s .ty l, .agg r.view, .i 0]) := by
  have hc := checkTyR_c (funs r l) (by omega)
  rw [he] at hc
  have hlen : l.length ≤ 64 := by
    have h1 := funs_size r l
    have h2 := lsum_len (fun x : Ty => 1 + x.size) (fun x => by omega) l
    omega
  have hr : r.size ≤ 64 := by have := funs_size r l; omega
  have hcr := copyTy_c _ r (Nat.le_refl _) (by omega)
  refine AC.mk Tryd.func27 rfl rfl rfl rfl rfl (Nat.le_of_ble_eq_true rfl) ?_
  repeat' (first | ((with_reducible refine D.nil ?_); refine AX.nilL ?_) | ((with_reducible refine D.load ?_); refine L.ldb rfl rfl rfl rfl rfl rfl ?_) | ((with_reducible refine D.move ?_); refine L.mv rfl rfl rfl ?_) | ((with_reducible refine D.assign ?_); refine L.asg rfl rfl rfl ?_) | ((with_reducible refine D.bin ?_); refine L.bn rfl rfl rfl rfl rfl ?_) | ((with_reducible refine D.call ?_); refine L.c2 (hc) rfl rfl rfl rfl ?_) | ((with_reducible refine D.box ?_); refine L.bx rfl rfl rfl rfl ?_) | ((with_reducible refine D.alloc ?_); refine L.al rfl rfl rfl ?_) | ((with_reducible refine D.aw ?_); first | refine K.sq (AW.regL ?_) | refine K.sq (K.sq ?_) | refine AW.regL ?_ | refine AW.condF rfl ?_ | refine AW.skip ?_) | with_reducible refine K.tN ?_)
  refine K.sq (AW.block (AW.loop (ι := { m : Nat // m ≤ l.length }) (fun m => ([(1, .ptr 0 0), (3, .ptr 1 0), (6, .slice (.own 2) (.t .ty (l.take m.1)))], ⟨3, [(0, .var (funs r (l.drop m.1)).view), (1, .var [.i 0, .slice .nil (.t .ty [])]), (2, .row)]⟩)) (fun m => l.length - m.1) ⟨0, Nat.zero_le _⟩ (Weak.mk [some 0, some 1, none] _ _ _ rfl rfl rfl rfl (by (repeat' (first | exact trivial | refine And.intro ?_ ?_ | refine ⟨_, rfl, _, rfl, ?_⟩ | exact VLe.refl _)); done) (by (repeat' (first | exact trivial | exact Or.inl rfl | refine And.intro ?_ ?_ | refine ⟨_, rfl, _, rfl, _, rfl, ?_⟩ | exact VLe.refl _)); done)) fun ⟨m, hm⟩ => ?_))
  by_cases hlt : m < l.length
  · have e : funs r (l.drop m) = .mk 4 [l[m], funs r (l.drop (m + 1))] := by rw [List.drop_eq_getElem_cons hlt]; rfl
    have hx := funs_mem (r := r) (List.getElem_mem hlt)
    have hcx := copyTy_c _ l[m] (Nat.le_refl _) (by omega)
    simp only [e]
    repeat' (first | ((with_reducible refine D.nil ?_); refine AX.nilL ?_) | ((with_reducible refine D.load ?_); first | refine L.ldb rfl rfl rfl rfl rfl rfl ?_ | refine L.lda rfl rfl rfl rfl rfl ?_) | ((with_reducible refine D.move ?_); refine L.mv rfl rfl rfl ?_) | ((with_reducible refine D.fieldAddr ?_); refine L.fab rfl rfl rfl rfl rfl ?_) | ((with_reducible refine D.assign ?_); refine L.asg rfl rfl rfl ?_) | ((with_reducible refine D.bin ?_); refine L.bn rfl rfl rfl rfl rfl ?_) | ((with_reducible refine D.call ?_); first | refine L.apt rfl rfl rfl rfl rfl rfl (by first | exact trivial | exact ⟨rfl, trivial⟩) rfl rfl (by first | omega | (simp; omega)) ?_ | refine L.c2 (hcx) rfl rfl rfl rfl ?_) | ((with_reducible refine D.store ?_); refine L.st rfl rfl rfl rfl rfl rfl rfl rfl rfl ?_) | ((with_reducible refine D.indexAddr ?_); refine L.ixt _ rfl rfl rfl rfl rfl rfl rfl (by (simp only [Ty.args_mk, Tm.args_mk, List.length_cons, List.length_nil, List.getElem_cons_zero, List.getElem_cons_succ]; omega)) ?_) | ((with_reducible refine D.ax ?_); refine L.bs1 rfl rfl rfl rfl rfl (EC.fold_of rfl) rfl rfl ?_) | ((with_reducible refine D.aw ?_); first | ((with_reducible refine D.blk ?_); refine AW.block ?_) | refine K.sq (AW.regL ?_) | refine K.sq (K.sq ?_) | refine AW.regL ?_ | refine AW.condT rfl ?_ | refine AW.skip ?_) | with_reducible refine K.tN ?_ | with_reducible refine K.bN ?_)
    refine ⟨⟨m + 1, by omega⟩, by show l.length - (m + 1) < l.length - m; omega, ?_⟩
    exact (Weak.mk [some 0, some 1, some 3] _ _ _ rfl rfl rfl rfl (by (repeat' (first | exact trivial | refine And.intro ?_ ?_ | refine ⟨_, rfl, _, rfl, ?_⟩ | exact VLe.refl _ | exact VLe.of_eq (by simp [Sto.upd, List.take_append_getElem]))); done) (by (repeat' (first | exact trivial | exact Or.inr ⟨_, rfl, rfl⟩ | refine And.intro ?_ ?_ | refine ⟨_, rfl, _, rfl, _, rfl, ?_⟩ | exact VLe.refl _)); done))
  · obtain rfl : m = l.length := by omega
    simp only [List.drop_length, List.take_length, show funs r [] = r from rfl]
    repeat' (first | ((with_reducible refine D.nil ?_); refine AX.nilL ?_) | ((with_reducible refine D.load ?_); first | refine L.ldb rfl rfl rfl rfl rfl rfl ?_ | refine L.lda rfl rfl rfl rfl rfl ?_) | ((with_reducible refine D.move ?_); refine L.mv rfl rfl rfl ?_) | ((with_reducible refine D.fieldAddr ?_); refine L.fab rfl rfl rfl rfl rfl ?_) | ((with_reducible refine D.assign ?_); refine L.asg rfl rfl rfl ?_) | ((with_reducible refine D.bin ?_); refine L.bn rfl rfl rfl rfl rfl ?_) | ((with_reducible refine D.call ?_); refine L.c2 (hcr) rfl rfl rfl rfl ?_) | ((with_reducible refine D.store ?_); refine L.st rfl rfl rfl rfl rfl rfl rfl rfl rfl ?_) | ((with_reducible refine D.indexAddr ?_); refine L.ixt _ rfl rfl rfl rfl rfl rfl rfl (by (simp at *; omega)) ?_) | ((with_reducible refine D.aw ?_); first | ((with_reducible refine D.blk ?_); refine AW.block ?_) | refine K.sq (AW.regL ?_) | refine K.sq (K.sq ?_) | refine AW.regL ?_ | refine AW.condS rfl (fun h => ?_) (fun h => ?_) | refine AW.skip ?_ | refine AW.ret ?_ | refine AW.exit ?_) | with_reducible refine K.tN ?_ | with_reducible refine K.tE ?_ | with_reducible refine K.bX (by with_unfolding_all rfl) ?_ | with_reducible refine K.lE ?_ | with_reducible refine K.r1 (by with_unfolding_all rfl) (by with_unfolding_all rfl) ?_)
    all_goals first
      | (exfalso; simp at h; exact hk h)
      | rfl
      | (simp [tupV, V.wk, V.wks, constV, Ty.view]; done)
theorem type3_c (d : Dk) (h : d.ok) : AC E 13 [.ptr 0 0, .i 3] ⟨1, [(0, .var d.cells)]⟩ (.agg (d.type 3).1.view) ⟨1, [(0, .var (d.type 3).2.cells)]⟩ := type_c 3 3 d (by omega) (by omega) (by omega) h
theorem dfls_full (l : List Ty) (h : ∀ x ∈ l, x.shape = true ∧ x.size ≤ 64) : ((l.map dfl).map Tm.full).sum ≤ 5000 * l.length := by
  induction l with
  | nil => simp
  | cons x l ih =>
    have hx := h x (by simp)
    have h1 := dfl_full hx.1 hx.2
    have h2 := ih fun y hy => h y (by simp [hy])
    simp only [List.map_cons, List.sum_cons, List.length_cons]; omega
theorem termsDefaults_c (l : List Int) : PC E 7 [.s .int l] (.bool true) := by
  by_cases hl : l.length ≤ 500
  case neg =>
    have hf := few_f l hl
    refine AC.mk Tryd.func7 rfl rfl rfl rfl rfl (Nat.le_of_ble_eq_true rfl) ?_
    repeat' (first | ((with_reducible refine D.nil ?_); refine AX.nilL ?_) | ((with_reducible refine D.move ?_); refine L.mv rfl rfl rfl ?_) | ((with_reducible refine D.assign ?_); refine L.asg rfl rfl rfl ?_) | ((with_reducible refine D.call ?_); first | refine L.c2 (sane02_c) rfl rfl rfl rfl ?_ | refine L.c2 (hf) rfl rfl rfl rfl ?_) | ((with_reducible refine D.not ?_); refine L.nt rfl rfl rfl ?_) | ((with_reducible refine D.aw ?_); first | refine K.sq (AW.regL ?_) | refine K.sq (K.sq ?_) | refine AW.regL ?_ | refine AW.condT rfl ?_ | refine AW.condF rfl ?_ | refine AW.skip ?_ | refine AW.ret ?_) | with_reducible refine K.tN ?_ | with_reducible refine K.tR ?_ | with_reducible refine K.r1 (by with_unfolding_all rfl) (by with_unfolding_all rfl) ?_)
    rfl
  have hf := few_t l hl
  have hn := new_c l
  have d0 := deck_ok hl
  have ts := type3_c (Dk.mk l 0) d0
  have hs := Dk.type_shape 3 (Dk.mk l 0)
  have hz := Dk.type_size 3 (Dk.mk l 0)
  generalize ((Dk.mk l 0).type 3).1 = s at *
  generalize ((Dk.mk l 0).type 3).2 = D1 at *
  obtain ⟨r, us, rfl, hk, hr, hus⟩ := funs_ex s hs
  have hz' : (funs r us).size ≤ 15 := hz
  clear hz
  have he : (funs r us).err = 0 := (Ty.err_iff _).2 ⟨hs, by omega⟩
  have hus' : ∀ x ∈ us, x.shape = true ∧ x.size ≤ 64 := fun x hx => ⟨hus x hx, by have := funs_mem (r := r) hx; omega⟩
  have hlen : us.length ≤ 15 := by
    have h1 := funs_size r us
    have h2 := lsum_len (fun x : Ty => 1 + x.size) (fun x => by omega) us
    omega
  have hrs : r.size ≤ 15 := by have := funs_size r us; omega
  have td := termsDefault_c (funs r us) (by omega)
  rw [he, show dflS (funs r us) = dfl (funs r us) from if_pos he] at td
  have hff := dfl_full hs (by omega)
  have ta := termsTypeOf_c [] (dfl (funs r us)) (by omega) (by simp)
  rw [typeOf_ok smalls_nil (by simp) (dfl_err hs (by omega)) ((dfl_facts _ hs (by omega)).1 [])] at ta
  have tr := result_c r us hk he (by omega)
  obtain ⟨e1, e2⟩ := dfl_apply hs (by omega) hus
  have hsum := dfls_full us hus'
  have tp := termsApply_c (dfl (funs r us)) (us.map dfl) (by omega) (by omega) (by simp; omega)
  rw [show applyS (dfl (funs r us)) (us.map dfl) = appT (dfl (funs r us)) (us.map dfl) from if_pos e1, e1] at tp
  have hfa := appT_full (dfl (funs r us)) (us.map dfl)
  have hfb := sum_two (us.map dfl)
  have tb := termsTypeOf_c [] (appT (dfl (funs r us)) (us.map dfl)) (by omega) (by simp)
  rw [e2] at tb
  have s1 := sameTy_r (funs r us) (by omega)
  have s2 := sameTy_r r (by omega)
  have hdu : ∀ m (hm : m < us.length), PC E 26 [.agg us[m].view] (.tup [.agg (dfl us[m]).view, .i 0]) := fun m hm => by
    have hx := hus' _ (List.getElem_mem hm)
    have h0 : us[m].err = 0 := (Ty.err_iff _).2 hx
    have := termsDefault_c us[m] (by omega)
    rwa [h0, show dflS us[m] = dfl us[m] from if_pos h0] at this
  clear e1 e2 hfa hfb hff
  generalize appT (dfl (funs r us)) (us.map dfl) = z at *
  generalize dfl (funs r us) = x at *
  generalize funs r us = s at *
  refine AC.mk Tryd.func7 rfl rfl rfl rfl rfl (Nat.le_of_ble_eq_true rfl) ?_
  repeat' (first | ((with_reducible refine D.nil ?_); refine AX.nilL ?_) | ((with_reducible refine D.load ?_); refine L.ldb rfl rfl rfl rfl rfl rfl ?_) | ((with_reducible refine D.move ?_); refine L.mv rfl rfl rfl ?_) | ((with_reducible refine D.assign ?_); refine L.asg rfl rfl rfl ?_) | ((with_reducible refine D.call ?_); first | refine L.lnt rfl rfl rfl rfl ?_ | refine L.c2 (sane02_c) rfl rfl rfl rfl ?_ | refine L.c2 (hf) rfl rfl rfl rfl ?_ | (apply L.cb2 (hn) [] 1 rfl; rfl; rfl; rfl; rfl; rfl; rfl; (focus ((repeat' (first | exact trivial)); done)); rfl; rfl; rfl; rfl) | (apply L.cb2 (ts) [0] 0 rfl; rfl; rfl; rfl; rfl; rfl; rfl; (focus ((repeat' (first | exact trivial | refine And.intro ?_ ?_ | refine ⟨_, rfl, _, rfl, _, rfl, ?_⟩ | exact VLe.refl _)); done)); rfl; rfl; rfl; rfl) | refine L.c2 (td) rfl rfl rfl rfl ?_ | refine L.c2 (ta) rfl rfl rfl rfl ?_ | refine L.c2 (tr) rfl rfl rfl rfl ?_) | ((with_reducible refine D.extract ?_); refine L.ex rfl rfl rfl rfl ?_) | ((with_reducible refine D.alloc ?_); refine L.al rfl rfl rfl ?_) | ((with_reducible refine D.store ?_); refine L.st rfl rfl rfl rfl rfl rfl rfl rfl rfl ?_) | ((with_reducible refine D.not ?_); refine L.nt rfl rfl rfl ?_) | ((with_reducible refine D.aw ?_); first | refine K.sq (AW.regL ?_) | refine K.sq (K.sq ?_) | refine AW.regL ?_ | refine AW.condF rfl ?_ | refine AW.skip ?_) | with_reducible refine K.tN ?_)
  refine AW.range us.length (fun m => True)
    (fun m => ([(4, .ptr 0 0), (5, .ptr 1 0), (6, .i 0), (7, .ptr 2 0), (8, .i 0), (10, .ptr 3 0), (12, .slice (.own 4) (.t .tm ((us.take m).map dfl))), (46, .s .ty us), (47, .i us.length), (48, .i m)], ⟨5, [(0, .var s.view), (1, .var x.view), (2, .var s.view), (3, .var r.view), (4, .row)]⟩))
    (by omega) (fun m => rfl) (fun m => rfl) rfl trivial ?_ ?_ ?_
  · exact (Weak.mk [some 1, some 2, some 3, some 4, none] _ _ _ rfl rfl rfl rfl (by (repeat' (first | exact trivial | refine And.intro ?_ ?_ | refine ⟨_, rfl, _, rfl, ?_⟩ | exact VLe.refl _)); done) (by (repeat' (first | exact trivial | exact Or.inl rfl | refine And.intro ?_ ?_ | refine ⟨_, rfl, _, rfl, _, rfl, ?_⟩ | exact VLe.refl _)); done))
  · intro m hm _
    have e : (us.take (m + 1)).map dfl = (us.take m).map dfl ++ [dfl us[m]] := map_take dfl us m hm
    have hd := hdu m hm
    have hl1 : ((us.take m).map dfl).length ≤ 15 := by simp; omega
    repeat' (first | ((with_reducible refine D.nil ?_); refine AX.nilL ?_) | ((with_reducible refine D.load ?_); first | refine L.ldb rfl rfl rfl rfl rfl rfl ?_ | refine L.lda rfl rfl rfl rfl rfl ?_) | ((with_reducible refine D.move ?_); refine L.mv rfl rfl rfl ?_) | ((with_reducible refine D.assign ?_); refine L.asg rfl rfl rfl ?_) | ((with_reducible refine D.bin ?_); refine L.bn rfl rfl rfl rfl rfl ?_) | ((with_reducible refine D.call ?_); first | refine L.apt rfl rfl rfl rfl rfl rfl (by first | exact trivial | exact ⟨rfl, trivial⟩) rfl rfl (by first | omega | (simp; omega)) ?_ | refine L.c2 (hd) rfl rfl rfl rfl ?_) | ((with_reducible refine D.extract ?_); refine L.ex rfl rfl rfl rfl ?_) | ((with_reducible refine D.alloc ?_); refine L.al rfl rfl rfl ?_) | ((with_reducible refine D.store ?_); refine L.st rfl rfl rfl rfl rfl rfl rfl rfl rfl ?_) | ((with_reducible refine D.indexAddr ?_); refine L.ixt _ rfl rfl rfl rfl rfl rfl rfl (by assumption) ?_) | ((with_reducible refine D.ax ?_); refine L.bs1 rfl rfl rfl rfl rfl (EC.fold_of rfl) rfl rfl ?_) | ((with_reducible refine D.aw ?_); first | refine K.sq (AW.regL ?_) | refine K.sq (K.sq ?_) | refine AW.regL ?_ | refine AW.condF rfl ?_ | refine AW.skip ?_) | with_reducible refine K.tN ?_ | with_reducible refine K.bN ?_)
    refine ⟨rfl, trivial, ?_⟩
    simp only [e]
    exact (Weak.mk [some 0, some 1, some 2, some 3, some 7] _ _ _ rfl rfl rfl rfl (by (repeat' (first | exact trivial | refine And.intro ?_ ?_ | refine ⟨_, rfl, _, rfl, ?_⟩ | exact VLe.refl _)); done) (by (repeat' (first | exact trivial | exact Or.inr ⟨_, rfl, rfl⟩ | refine And.intro ?_ ?_ | refine ⟨_, rfl, _, rfl, _, rfl, ?_⟩ | exact VLe.refl _)); done))
  · intro _
    simp only [List.take_length]
    repeat' (first | ((with_reducible refine D.nil ?_); refine AX.nilL ?_) | ((with_reducible refine D.load ?_); refine L.ldb rfl rfl rfl rfl rfl rfl ?_) | ((with_reducible refine D.move ?_); refine L.mv rfl rfl rfl ?_) | ((with_reducible refine D.assign ?_); refine L.asg rfl rfl rfl ?_) | ((with_reducible refine D.bin ?_); refine L.bn rfl rfl rfl rfl rfl ?_) | ((with_reducible refine D.call ?_); first | refine L.c2 (tp) rfl rfl rfl rfl ?_ | refine L.c2 (tb) rfl rfl rfl rfl ?_ | refine L.c2 (s1) rfl rfl rfl rfl ?_ | refine L.c2 (s2) rfl rfl rfl rfl ?_) | ((with_reducible refine D.extract ?_); refine L.ex rfl rfl rfl rfl ?_) | ((with_reducible refine D.alloc ?_); refine L.al rfl rfl rfl ?_) | ((with_reducible refine D.store ?_); refine L.st rfl rfl rfl rfl rfl rfl rfl rfl rfl ?_) | ((with_reducible refine D.pick ?_); refine L.pk rfl rfl rfl rfl ?_) | ((with_reducible refine D.aw ?_); first | refine K.sq (AW.regL ?_) | refine AW.ret ?_) | with_reducible refine K.tN ?_ | with_reducible refine K.r1 (by with_unfolding_all rfl) (by with_unfolding_all rfl) ?_)
    rfl
end Go.Ab
