/- A part of the proofs of this seat's statements: S50, S59, S60, S63, S51, S64, S52, S65, S61, S66, S53, S57, S67, S68. It has no conditions of its own. -/
import Derived.Test.YthenpnfgkgglcaaGreatDoorS2
import Derived.Test.YthenpnfgkgglcaaGreatDoorD1
import Derived.Test.YthenpnfgkgglcaaGreatDoorA2
import Derived.Test.YthenpnfgkgglcaaGreatDoorS1
namespace Go.Ab
open Go Go.Proofs
set_option maxRecDepth 100000
set_option maxHeartbeats 4000000
set_option linter.all false
theorem formM_c (ho : Int) (hh : 0 ≤ ho ∧ ho ≤ 4096) : ∀ (n : Nat) (p f : Fm) (m : FMap) (b : Int), p.full ≤ n → n < 68719476736 → 0 ≤ b → b + n < 137438953472 → p.shape = true → f.shape = true → f.full < 68719476736 →
    p.nearE = true → f.nearE = true →
    AC E 47 [.ptr 0 0, .agg p.view, .agg f.view, .i b] ⟨2, [(0, .var [.i ho, .mp 1]), (1, .map .tm (m.map (·.1)) (m.map (·.2)))]⟩ (.bool (mF ho b p f m).1)
      ⟨2, [(0, .var [.i ho, .mp 1]), (1, .map .tm ((mF ho b p f m).2.map (·.1)) ((mF ho b p f m).2.map (·.2)))]⟩ := by
  intro n
  induction n with
  | zero => intro p; intros; have := p.full_pos; omega
  | succ n ih =>
  intro p f m b hsz hn hb hbn hps hfs hff hpv hfv
  have hsz' := p.full_eq
  have hlen := lsum_len Fm.full Fm.full_pos p.args
  have hlen2 := lsum_len Tm.full Tm.full_pos p.terms
  have hff' := f.full_eq
  have hmt := mF_eq ho b p f m
  have hq := quantifier_c p.kind
  have hty := sameTy2_c _ p.ty f.ty (Nat.le_refl _) (by omega)
  refine AC.mk Tryz.func47 rfl rfl rfl rfl rfl (Nat.le_of_ble_eq_true rfl) ?_
  repeat' (first | ((with_reducible refine D.nil ?_); refine AX.nilL ?_) | ((with_reducible refine D.assign ?_); refine L.asg U U U ?_) | ((with_reducible refine D.box ?_); refine L.bx U U U U ?_) | ((with_reducible refine D.aw ?_); (fail_if_success with_reducible refine D.stopR (id := 1) ?_); (fail_if_success with_reducible refine D.stopS (id := 1) ?_); refine K.sq (AW.regL ?_)) | with_reducible refine K.tN ?_)
  refine K.sq ?_
  refine AW.cut (ι := Unit) (fun _ => ([(0, .ptr 0 0), (3, .i b), (5, .ptr 2 0), (6, .ptr 3 0), (25, .bool (!decide (p.kind = f.kind ∧ p.ty = f.ty)))], ⟨4, [(0, .var [.i ho, .mp 1]), (1, .map .tm (m.map (·.1)) (m.map (·.2))), (2, .var p.view), (3, .var f.view)]⟩)) ?_ ?_
  · clear ih hmt hpv hfv hsz' hq hff'
    repeat' (first | ((with_reducible refine D.nil ?_); refine AX.nilL ?_) | ((with_reducible refine D.load ?_); first | refine L.ldb U U U U U U ?_ | refine AX.sk U U ?_) | ((with_reducible refine D.move ?_); refine L.mv U U U ?_) | ((with_reducible refine D.fieldAddr ?_); first | refine L.fab U U U U U ?_ | refine AX.sk U U ?_ | ((fail_if_success refine AX.wt U ?_); refine AX.gs U U (fun _ => trivial) (fun h => ?_) (fun h => ?_))) | ((with_reducible refine D.bin ?_); refine L.bn U U U U U ?_) | ((with_reducible refine D.call ?_); first | refine L.c2 (hty) U U U U ?_ | refine AX.sk U U ?_) | ((with_reducible refine D.not ?_); first | refine L.nt U U U ?_ | refine AX.sk U U ?_) | ((with_reducible refine D.pick ?_); refine L.pk U U U U ?_) | ((with_reducible refine D.aw ?_); refine AW.regL ?_))
    · have e : (!decide (p.kind = f.kind ∧ p.ty = f.ty)) = true := by
        simp only [bne_iff_ne, ne_eq] at h
        simp [h]
      rw [e]
      exact ⟨(), (Weak.mk [some 0, some 1, some 2, some 3] _ _ _ U U U U (by (repeat' (first | exact trivial | refine And.intro ?_ ?_ | refine ⟨_, U, _, U, ?_⟩ | exact VLe.refl _)); done) (by (repeat' (first | exact trivial | refine And.intro ?_ ?_ | refine ⟨_, U, _, U, _, U, ?_⟩ | exact VLe.refl _ | refine ⟨_, U, _, _, U, ?_, ?_⟩ | with_reducible exact rfl)); done))⟩
    · have e : (!decide (p.kind = f.kind ∧ p.ty = f.ty)) = !decide (p.ty = f.ty) := by
        simp only [bne_eq_false_iff_eq] at h
        simp [h]
      rw [e]
      exact ⟨(), (Weak.mk [some 0, some 1, some 2, some 3] _ _ _ U U U U (by (repeat' (first | exact trivial | refine And.intro ?_ ?_ | refine ⟨_, U, _, U, ?_⟩ | exact VLe.refl _)); done) (by (repeat' (first | exact trivial | refine And.intro ?_ ?_ | refine ⟨_, U, _, U, _, U, ?_⟩ | exact VLe.refl _ | refine ⟨_, U, _, _, U, ?_, ?_⟩ | with_reducible exact rfl)); done))⟩
  intro _
  by_cases hne : ¬ (p.kind = f.kind ∧ p.ty = f.ty)
  · rw [if_neg hne] at hmt
    have hd2 : (!decide (p.kind = f.kind ∧ p.ty = f.ty)) = true := by rw [decide_eq_false hne]; rfl
    rw [hd2, hmt]
    repeat' (first | ((with_reducible refine D.nil ?_); refine AX.nilL ?_) | ((with_reducible refine D.assign ?_); refine L.asg U U U ?_) | ((with_reducible refine D.aw ?_); first | refine K.sq (AW.regL ?_) | refine AW.condT U ?_ | refine AW.ret ?_) | with_reducible refine K.tN ?_ | with_reducible refine K.tR ?_)
    (exact K.n2 [some 0, some 1] U U U U U (by (repeat' (first | exact trivial | refine And.intro ?_ ?_ | refine ⟨_, U, _, U, _, U, ?_⟩ | exact VLe.refl _ | refine ⟨_, U, _, _, U, ?_, ?_⟩ | with_reducible exact rfl)); done) U (by simp [tupV, V.wk, V.wks, constV, Ty.view, Tm.view, hmt]))
  have heq := Classical.not_not.1 hne
  have hd2 : (!decide (p.kind = f.kind ∧ p.ty = f.ty)) = false := by rw [decide_eq_true heq]; rfl
  rw [if_pos heq] at hmt
  rw [hd2]
  have hal := head_fm hps hfs heq.1
  repeat' (first | ((with_reducible refine D.nil ?_); refine AX.nilL ?_) | ((with_reducible refine D.load ?_); refine L.ldb U U U U U U ?_) | ((with_reducible refine D.move ?_); refine L.mv U U U ?_) | ((with_reducible refine D.fieldAddr ?_); refine L.fab U U U U U ?_) | ((with_reducible refine D.call ?_); refine L.lnt U U U U ?_) | ((with_reducible refine D.aw ?_); first | refine K.sq (K.sq ?_) | refine AW.regL ?_ | refine AW.condF U ?_ | refine AW.skip ?_) | with_reducible refine K.tN ?_)
  refine AW.range p.terms.length (fun k => (mTs ho b (p.terms.take k) (f.terms.take k) m).1 = true)
    (fun k => ([(0, .ptr 0 0), (3, .i b), (5, .ptr 2 0), (6, .ptr 3 0), (27, .s .tm p.terms), (28, .i p.terms.length), (29, .i k)], ⟨4, [(0, .var [.i ho, .mp 1]), (1, .map .tm ((mTs ho b (p.terms.take k) (f.terms.take k) m).2.map (·.1)) ((mTs ho b (p.terms.take k) (f.terms.take k) m).2.map (·.2))), (2, .var p.view), (3, .var f.view)]⟩))
    (by omega) (fun m => rfl) (fun m => rfl) U U (Weak.mk [some 0, some 1, some 2, some 3] _ _ _ U U U U (by (repeat' (first | exact trivial | refine And.intro ?_ ?_ | refine ⟨_, U, _, U, ?_⟩ | exact VLe.refl _)); done) (by (repeat' (first | exact trivial | refine And.intro ?_ ?_ | refine ⟨_, U, _, U, _, U, ?_⟩ | exact VLe.refl _ | refine ⟨_, U, _, _, U, ?_, ?_⟩ | (simp [Sto.upd, mTs]; done))); done)) ?_ ?_
  · intro k hk hP
    have hk2 : k < f.terms.length := by omega
    have hs2 := lsum_mem Tm.full (List.getElem_mem hk)
    have hs3 := lsum_mem Tm.full (List.getElem_mem hk2)
    have hc := termM_c ho hh _ p.terms[k] f.terms[k] (mTs ho b (p.terms.take k) (f.terms.take k) m).2 b (Nat.le_refl _) (by omega) hb (by omega) (fshape_terms hps (List.getElem_mem hk)) (fshape_terms hfs (List.getElem_mem hk2)) (by omega)
      (nearE_terms hpv (List.getElem_mem hk)) (nearE_terms hfv (List.getElem_mem hk2))
    have htk := mTs_take (m := m) hal.1 hk hP
    repeat' (first | ((with_reducible refine D.nil ?_); first | refine AX.nilL ?_ | refine AX.nilD (by kernel_rfl) ?_) | ((with_reducible refine D.load ?_); first | refine L.ldb U U U U U U ?_ | refine L.lda U U U U U ?_) | ((with_reducible refine D.move ?_); refine L.mv U U U ?_) | ((with_reducible refine D.fieldAddr ?_); refine L.fab U U U U U ?_) | ((with_reducible refine D.assign ?_); refine L.asg U U U ?_) | ((with_reducible refine D.call ?_); (apply L.cb2 (hc) [0, 1] 0 rfl; rfl; rfl; rfl; rfl; rfl; rfl; (focus ((repeat' (first | exact trivial | refine And.intro ?_ ?_ | refine ⟨_, U, _, U, _, U, ?_⟩ | exact VLe.refl _ | refine ⟨_, U, _, _, U, ?_, ?_⟩ | with_reducible exact rfl)); done)); rfl; rfl; rfl; rfl)) | ((with_reducible refine D.alloc ?_); refine L.al U U U ?_) | ((with_reducible refine D.store ?_); refine L.st U U U U U U U U U ?_) | ((with_reducible refine D.indexAddr ?_); refine L.ixt _ U U U U U U U (by assumption) ?_) | ((with_reducible refine D.not ?_); refine L.nt U U U ?_) | ((with_reducible refine D.aw ?_); first | refine K.sq (AW.regL ?_) | refine K.sq (AW.regD mixed (by kernel_rfl) ?_) | refine AW.condS U (fun h => ?_) (fun h => ?_) | refine AW.skip ?_ | refine AW.ret ?_) | with_reducible refine K.tN ?_ | with_reducible refine K.bN ?_ | with_reducible refine K.tR ?_ | with_reducible refine K.bR ?_ | with_reducible refine K.gR ?_)
    · have h1 : (mT ho b p.terms[k] f.terms[k] (mTs ho b (p.terms.take k) (f.terms.take k) m).2).1 = false := by simpa using h
      have e := mTs_stop (m := m) hal.1 hk hP h1
      rw [e] at hmt
      rw [hmt]
      (exact K.n2 [some 0, some 1] U U U U U (by (repeat' (first | exact trivial | refine And.intro ?_ ?_ | refine ⟨_, U, _, U, _, U, ?_⟩ | exact VLe.refl _ | refine ⟨_, U, _, _, U, ?_, ?_⟩ | with_reducible exact rfl)); done) U (by simp [tupV, V.wk, V.wks, constV, Ty.view, Tm.view, h1]))
    · have h1 : (mT ho b p.terms[k] f.terms[k] (mTs ho b (p.terms.take k) (f.terms.take k) m).2).1 = true := by simpa using h
      refine ⟨rfl, by simp only [htk]; exact h1, ?_⟩
      simp only [htk]
      exact (Weak.mk [some 0, some 1, some 2, some 3] _ _ _ U U U U (by (repeat' (first | exact trivial | refine And.intro ?_ ?_ | refine ⟨_, U, _, U, ?_⟩ | exact VLe.refl _)); done) (by (repeat' (first | exact trivial | refine And.intro ?_ ?_ | refine ⟨_, U, _, U, _, U, ?_⟩ | exact VLe.refl _ | refine ⟨_, U, _, _, U, ?_, ?_⟩ | with_reducible exact rfl)); done))
  intro hP
  rw [List.take_of_length_le (Nat.le_refl _), List.take_of_length_le (by omega)] at hP
  rw [List.take_of_length_le (Nat.le_refl _), List.take_of_length_le (show f.terms.length ≤ p.terms.length by omega)]
  have e1 : mTs ho b p.terms f.terms m = (true, (mTs ho b p.terms f.terms m).2) := Prod.ext hP rfl
  have hmt2 : mF ho b p f m = mFs ho (upF p.kind b) p.args f.args (mTs ho b p.terms f.terms m).2 := by rw [hmt, e1]
  rw [hmt2]
  repeat' (first | ((with_reducible refine D.nil ?_); refine AX.nilL ?_) | ((with_reducible refine D.load ?_); refine L.ldb U U U U U U ?_) | ((with_reducible refine D.move ?_); refine L.mv U U U ?_) | ((with_reducible refine D.fieldAddr ?_); refine L.fab U U U U U ?_) | ((with_reducible refine D.assign ?_); refine L.asg U U U ?_) | ((with_reducible refine D.bin ?_); refine L.ad U U U U (by omega) ?_) | ((with_reducible refine D.call ?_); first | refine L.lnt U U U U ?_ | refine L.c2 (hq) U U U U ?_) | ((with_reducible refine D.aw ?_); first | refine K.sq (K.sq ?_) | refine AW.regL ?_ | refine AW.condS U (fun h => ?_) (fun h => ?_) | refine AW.skip ?_) | with_reducible refine K.tN ?_)
  all_goals
    refine AW.range p.args.length (fun k => (mFs ho (upF p.kind b) (p.args.take k) (f.args.take k) (mTs ho b p.terms f.terms m).2).1 = true)
      (fun k => ([(0, .ptr 0 0), (3, .i (upF p.kind b)), (5, .ptr 2 0), (6, .ptr 3 0), (51, .s .fm p.args), (52, .i p.args.length), (53, .i k)], ⟨4, [(0, .var [.i ho, .mp 1]), (1, .map .tm ((mFs ho (upF p.kind b) (p.args.take k) (f.args.take k) (mTs ho b p.terms f.terms m).2).2.map (·.1)) ((mFs ho (upF p.kind b) (p.args.take k) (f.args.take k) (mTs ho b p.terms f.terms m).2).2.map (·.2))), (2, .var p.view), (3, .var f.view)]⟩))
      (by omega) (fun m => rfl) (fun m => rfl) rfl rfl ?_ ?_ ?_
    · exact (Weak.mk [some 0, some 1, some 2, some 3] _ _ _ U U U U (by (repeat' (first | exact trivial | refine And.intro ?_ ?_ | refine ⟨_, U, _, U, ?_⟩ | exact VLe.refl _ | exact VLe.of_eq (by simp [Sto.upd, upF, h, mFs]))); done) (by (repeat' (first | exact trivial | refine And.intro ?_ ?_ | refine ⟨_, U, _, U, _, U, ?_⟩ | exact VLe.refl _ | refine ⟨_, U, _, _, U, ?_, ?_⟩ | (simp [Sto.upd, upF, h, mFs]; done))); done))
    · intro k hk hP
      have hk2 : k < f.args.length := by omega
      have hs2 := lsum_mem Fm.full (List.getElem_mem hk)
      have hs3 := lsum_mem Fm.full (List.getElem_mem hk2)
      have hup : upF p.kind b ≤ b + 1 := by simp only [upF]; split <;> omega
      have hup0 : 0 ≤ upF p.kind b := by simp only [upF]; split <;> omega
      have hc := ih p.args[k] f.args[k] (mFs ho (upF p.kind b) (p.args.take k) (f.args.take k) (mTs ho b p.terms f.terms m).2).2 (upF p.kind b) (by omega) (by omega) hup0 (by omega) (fshape_args hps (List.getElem_mem hk)) (fshape_args hfs (List.getElem_mem hk2)) (by omega)
        (nearE_args hpv (List.getElem_mem hk)) (nearE_args hfv (List.getElem_mem hk2))
      have htk := mFs_take (m := (mTs ho b p.terms f.terms m).2) hal.2 hk hP
      repeat' (first | ((with_reducible refine D.nil ?_); first | refine AX.nilL ?_ | refine AX.nilD (by kernel_rfl) ?_) | ((with_reducible refine D.load ?_); first | refine L.ldb U U U U U U ?_ | refine L.lda U U U U U ?_) | ((with_reducible refine D.move ?_); refine L.mv U U U ?_) | ((with_reducible refine D.fieldAddr ?_); refine L.fab U U U U U ?_) | ((with_reducible refine D.assign ?_); refine L.asg U U U ?_) | ((with_reducible refine D.call ?_); (apply L.cb2 (hc) [0, 1] 0 rfl; rfl; rfl; rfl; rfl; rfl; rfl; (focus ((repeat' (first | exact trivial | refine And.intro ?_ ?_ | refine ⟨_, U, _, U, _, U, ?_⟩ | exact VLe.refl _ | refine ⟨_, U, _, _, U, ?_, ?_⟩ | with_reducible exact rfl)); done)); rfl; rfl; rfl; rfl)) | ((with_reducible refine D.alloc ?_); refine L.al U U U ?_) | ((with_reducible refine D.store ?_); refine L.st U U U U U U U U U ?_) | ((with_reducible refine D.indexAddr ?_); refine L.ixt _ U U U U U U U (by assumption) ?_) | ((with_reducible refine D.not ?_); refine L.nt U U U ?_) | ((with_reducible refine D.aw ?_); first | refine K.sq (AW.regL ?_) | refine K.sq (AW.regD mixed (by kernel_rfl) ?_) | refine AW.condS U (fun h => ?_) (fun h => ?_) | refine AW.skip ?_ | refine AW.ret ?_) | with_reducible refine K.tN ?_ | with_reducible refine K.bN ?_ | with_reducible refine K.tR ?_ | with_reducible refine K.bR ?_ | with_reducible refine K.gR ?_)
      · have h1 : (mF ho (upF p.kind b) p.args[k] f.args[k] (mFs ho (upF p.kind b) (p.args.take k) (f.args.take k) (mTs ho b p.terms f.terms m).2).2).1 = false := by simpa using h
        have e := mFs_stop (m := (mTs ho b p.terms f.terms m).2) hal.2 hk hP h1
        rw [e]
        (exact K.n2 [some 0, some 1] U U U U U (by (repeat' (first | exact trivial | refine And.intro ?_ ?_ | refine ⟨_, U, _, U, _, U, ?_⟩ | exact VLe.refl _ | refine ⟨_, U, _, _, U, ?_, ?_⟩ | with_reducible exact rfl)); done) U (by simp [tupV, V.wk, V.wks, constV, Ty.view, Tm.view, h1]))
      · have h1 : (mF ho (upF p.kind b) p.args[k] f.args[k] (mFs ho (upF p.kind b) (p.args.take k) (f.args.take k) (mTs ho b p.terms f.terms m).2).2).1 = true := by simpa using h
        refine ⟨rfl, by simp only [htk]; exact h1, ?_⟩
        simp only [htk]
        exact (Weak.mk [some 0, some 1, some 2, some 3] _ _ _ U U U U (by (repeat' (first | exact trivial | refine And.intro ?_ ?_ | refine ⟨_, U, _, U, ?_⟩ | exact VLe.refl _)); done) (by (repeat' (first | exact trivial | refine And.intro ?_ ?_ | refine ⟨_, U, _, U, _, U, ?_⟩ | exact VLe.refl _ | refine ⟨_, U, _, _, U, ?_, ?_⟩ | with_reducible exact rfl)); done))
    · intro hP
      have e : mFs ho (upF p.kind b) p.args f.args (mTs ho b p.terms f.terms m).2 = (true, (mFs ho (upF p.kind b) p.args f.args (mTs ho b p.terms f.terms m).2).2) := by
        have h1 := hP
        rw [List.take_of_length_le (Nat.le_refl _), List.take_of_length_le (by omega)] at h1
        exact Prod.ext h1 rfl
      rw [List.take_of_length_le (Nat.le_refl _), List.take_of_length_le (show f.args.length ≤ p.args.length by omega)]
      rw [e]
      repeat' (first | ((with_reducible refine D.nil ?_); refine AX.nilL ?_) | ((with_reducible refine D.assign ?_); refine L.asg U U U ?_) | ((with_reducible refine D.aw ?_); first | refine K.sq (AW.regL ?_) | refine AW.ret ?_) | with_reducible refine K.tN ?_)
      (exact K.n2 [some 0, some 1] U U U U U (by (repeat' (first | exact trivial | refine And.intro ?_ ?_ | refine ⟨_, U, _, U, _, U, ?_⟩ | exact VLe.refl _ | refine ⟨_, U, _, _, U, ?_, ?_⟩ | with_reducible exact rfl)); done) U (by simp [tupV, V.wk, V.wks, constV, Ty.view, Tm.view, e]))
end Go.Ab
namespace Go.Ab
open Go Go.Proofs
set_option maxRecDepth 100000
set_option maxHeartbeats 4000000
set_option linter.all false
abbrev mE (ho : Int) (s : MSt) : Es := [(0, .var [.i ho, .mp 1, .bool s.2]), (1, .map .tm (s.1.map (·.1)) (s.1.map (·.2)))]
theorem hole_c (ho k b : Int) (t : Tm) (s : MSt) (hb : 0 ≤ b ∧ b < 137438953472) (hs : t.shape = true) (hf : t.full < 137438953472) (hC : ∀ q ∈ t.vars 0, q.1 ≤ 268435456) :
    AC E 151 [.ptr 0 0, .i k, .agg t.view, .i b] ⟨2, mE ho s⟩ (.tup []) ⟨2, mE ho (rH k b t s)⟩ := by
  have hbn : (b.toNat : Int) = b := by omega
  obtain ⟨m, bad⟩ := s
  have hnn := t.vars_nonneg hs 0
  by_cases hmem : k ∈ m.map (·.1)
  · obtain ⟨i, hi⟩ := keyAt_mem hmem
    have hil : i < m.length := by have := (keyAt_some hi).2; simpa using this
    have hc0 : (m.map (·.2))[i]? = some (m[i]).2 := by rw [List.getElem?_map, List.getElem?_eq_getElem hil]; rfl
    have e : rH k b t (m, bad) = (m, bad) := by simp only [rH]; rw [if_pos hmem]
    rw [e]
    refine AC.mk Tryz.func151 rfl rfl rfl rfl rfl (Nat.le_of_ble_eq_true rfl) ?_
    repeat' (first | ((with_reducible refine D.nil ?_); refine AX.nilL ?_) | ((with_reducible refine D.load ?_); refine L.ldb U U U U U U ?_) | ((with_reducible refine D.move ?_); refine L.mv U U U ?_) | ((with_reducible refine D.fieldAddr ?_); refine L.fab U U U U U ?_) | ((with_reducible refine D.assign ?_); refine L.asg U U U ?_) | ((with_reducible refine D.extract ?_); refine L.ex U U U U ?_) | ((with_reducible refine D.box ?_); refine L.bx U U U U ?_) | ((with_reducible refine D.alloc ?_); refine L.al U U U ?_) | ((with_reducible refine D.store ?_); refine L.st U U U U U U U U U ?_) | ((with_reducible refine D.ax ?_); first | refine L.nc U U U U ?_ | refine L.lkuT U U U U U U (by first | assumption | rfl) (by first | assumption | rfl) U ?_) | ((with_reducible refine D.aw ?_); first | refine K.sq (AW.regL ?_) | refine K.sq (K.sq ?_) | refine AW.regL ?_ | refine AW.condT U ?_ | refine AW.ret ?_) | with_reducible refine K.tN ?_ | with_reducible refine K.tR ?_)
    (exact K.n2 [some 0, some 1] U U U U U (by (repeat' (first | exact trivial | refine And.intro ?_ ?_ | refine ⟨_, U, _, U, _, U, ?_⟩ | exact VLe.refl _ | refine ⟨_, U, _, _, U, ?_, ?_⟩ | with_reducible exact rfl)); done) U (by simp [tupV, V.wk, V.wks, constV, Ty.view, Tm.view, e]))
  · have hi := keyAt_none hmem
    have hup := rup_c (-b) (by omega) _ t b (Nat.le_refl _) (by omega) (by omega) (by omega) hs fun p hp => ⟨hnn p hp, by have := hC p hp; omega⟩
    have hupf : (t.re (liftG b (-b)) 0).full = t.full := lift_full b (-b) t 0 hs
    have hcp := copyTm_c _ (t.re (liftG b (-b)) 0) (Nat.le_refl _) (by omega)
    refine AC.mk Tryz.func151 rfl rfl rfl rfl rfl (Nat.le_of_ble_eq_true rfl) ?_
    repeat' (first | ((with_reducible refine D.nil ?_); refine AX.nilL ?_) | ((with_reducible refine D.load ?_); refine L.ldb U U U U U U ?_) | ((with_reducible refine D.move ?_); refine L.mv U U U ?_) | ((with_reducible refine D.fieldAddr ?_); refine L.fab U U U U U ?_) | ((with_reducible refine D.assign ?_); refine L.asg U U U ?_) | ((with_reducible refine D.extract ?_); refine L.ex U U U U ?_) | ((with_reducible refine D.box ?_); refine L.bx U U U U ?_) | ((with_reducible refine D.alloc ?_); refine L.al U U U ?_) | ((with_reducible refine D.store ?_); refine L.st U U U U U U U U U ?_) | ((with_reducible refine D.ax ?_); first | refine L.nc U U U U ?_ | refine L.lkn U U U U U U (by first | assumption | rfl) U U U ?_) | ((with_reducible refine D.aw ?_); first | refine K.sq (AW.regL ?_) | refine K.sq (K.sq ?_) | refine AW.regL ?_ | refine AW.condF U ?_ | refine AW.skip ?_) | with_reducible refine K.tN ?_)
    refine AW.block (AW.upto b.toNat (fun n => ∀ j : Nat, j < n → cnt j (t.vars 0) = 0)
      (fun n => ([(0, .ptr 0 0), (1, .i k), (3, .i b), (6, .ptr 2 0), (10, .i n)], ⟨3, [(0, .var [.i ho, .mp 1, .bool bad]), (1, .map .tm (m.map (·.1)) (m.map (·.2))), (2, .var t.view)]⟩))
      (fun j hj => by omega) (Weak.mk [some 0, some 1, some 2] _ _ _ U U U U (by (repeat' (first | exact trivial | refine And.intro ?_ ?_ | refine ⟨_, U, _, U, ?_⟩ | exact VLe.refl _)); done) (by (repeat' (first | exact trivial | refine And.intro ?_ ?_ | refine ⟨_, U, _, U, _, U, ?_⟩ | exact VLe.refl _ | refine ⟨_, U, _, _, U, ?_, ?_⟩ | with_reducible exact rfl)); done)) fun n hn hP => ?_)
    by_cases hlt : n < b.toNat
    · have hd : decide ((n : Int) < b) = true := decide_eq_true (by omega)
      have hc := rhas_c _ t n (Nat.le_refl _) (by omega) (by omega) (by omega) hs
      have htp := timesT_pos (at_ := n) hs
      by_cases hx : timesT n t ≠ 0
      · have e : rH k b t (m, bad) = (m, true) := by
          simp only [rH]
          rw [if_neg hmem, if_neg]
          intro hall
          exact (htp.1 hx) (hall n hlt)
        rw [decide_eq_true hx] at hc
        rw [e]
        repeat' (first | ((with_reducible refine D.nil ?_); refine AX.nilL ?_) | ((with_reducible refine D.load ?_); refine L.ldb U U U U U U ?_) | ((with_reducible refine D.move ?_); refine L.mv U U U ?_) | ((with_reducible refine D.fieldAddr ?_); refine L.fab U U U U U ?_) | ((with_reducible refine D.bin ?_); refine L.bn U U U U U ?_) | ((with_reducible refine D.not ?_); refine L.ng U U U (by omega) ?_) | ((with_reducible refine D.ax ?_); refine L.nc U U U U ?_) | ((with_reducible refine D.aw ?_); (fail_if_success with_reducible refine D.stopR (id := 6) ?_); (fail_if_success with_reducible refine D.stopS (id := 6) ?_); first | ((with_reducible refine D.sblk ?_); refine K.sq (AW.block ?_)) | refine K.sq (K.sq ?_) | refine AW.regL ?_ | refine AW.regD mixed (by kernel_rfl) ?_ | refine AW.condS U (fun h => ?_) (fun h => ?_) | refine AW.skip ?_ | refine AW.exit ?_) | with_reducible refine K.tN ?_ | with_reducible refine K.tE ?_ | with_reducible refine K.bX (by with_unfolding_all rfl) ?_ | with_reducible refine K.uE ?_)
        all_goals first
          | (exfalso; simp at h; omega)
          | skip
        repeat' (first | ((with_reducible refine D.nil ?_); refine AX.nilL ?_) | ((with_reducible refine D.load ?_); refine L.ldb U U U U U U ?_) | ((with_reducible refine D.move ?_); refine L.mv U U U ?_) | ((with_reducible refine D.fieldAddr ?_); refine L.fab U U U U U ?_) | ((with_reducible refine D.call ?_); refine L.c2 (hc) U U U U ?_) | ((with_reducible refine D.store ?_); refine L.st U U U U U U U U U ?_) | ((with_reducible refine D.ax ?_); refine L.nc U U U U ?_) | ((with_reducible refine D.aw ?_); first | refine K.sq (AW.regL ?_) | refine AW.condT U ?_ | refine AW.ret ?_) | with_reducible refine K.tN ?_ | with_reducible refine K.tR ?_ | with_reducible refine K.bR ?_ | with_reducible refine K.uR ?_)
        (exact K.n2 [some 0, some 1] U U U U U (by (repeat' (first | exact trivial | refine And.intro ?_ ?_ | refine ⟨_, U, _, U, _, U, ?_⟩ | exact VLe.refl _ | refine ⟨_, U, _, _, U, ?_, ?_⟩ | with_reducible exact rfl)); done) U (by simp [tupV, V.wk, V.wks, constV, Ty.view, Tm.view, e]))
      · rw [decide_eq_false hx] at hc
        repeat' (first | ((with_reducible refine D.nil ?_); refine AX.nilL ?_) | ((with_reducible refine D.load ?_); refine L.ldb U U U U U U ?_) | ((with_reducible refine D.move ?_); refine L.mv U U U ?_) | ((with_reducible refine D.fieldAddr ?_); refine L.fab U U U U U ?_) | ((with_reducible refine D.bin ?_); refine L.bn U U U U U ?_) | ((with_reducible refine D.not ?_); refine L.ng U U U (by omega) ?_) | ((with_reducible refine D.ax ?_); refine L.nc U U U U ?_) | ((with_reducible refine D.aw ?_); (fail_if_success with_reducible refine D.stopR (id := 6) ?_); (fail_if_success with_reducible refine D.stopS (id := 6) ?_); first | ((with_reducible refine D.sblk ?_); refine K.sq (AW.block ?_)) | refine K.sq (K.sq ?_) | refine AW.regL ?_ | refine AW.regD mixed (by kernel_rfl) ?_ | refine AW.condS U (fun h => ?_) (fun h => ?_) | refine AW.skip ?_ | refine AW.exit ?_) | with_reducible refine K.tN ?_ | with_reducible refine K.tE ?_ | with_reducible refine K.bX (by with_unfolding_all rfl) ?_ | with_reducible refine K.uE ?_)
        all_goals first
          | (exfalso; simp at h; omega)
          | skip
        repeat' (first | ((with_reducible refine D.nil ?_); refine AX.nilL ?_) | ((with_reducible refine D.load ?_); refine L.ldb U U U U U U ?_) | ((with_reducible refine D.move ?_); refine L.mv U U U ?_) | ((with_reducible refine D.assign ?_); refine L.asg U U U ?_) | ((with_reducible refine D.bin ?_); refine L.ad U U U U (by omega) ?_) | ((with_reducible refine D.call ?_); refine L.c2 (hc) U U U U ?_) | ((with_reducible refine D.aw ?_); first | refine K.sq (AW.regL ?_) | refine AW.regL ?_ | refine AW.condF U ?_ | refine AW.skip ?_) | with_reducible refine K.tN ?_ | with_reducible refine K.bN ?_)
        refine ⟨hlt, fun j hj => ?_, (Weak.mk [some 0, some 1, some 2] _ _ _ U U U U (by (repeat' (first | exact trivial | refine And.intro ?_ ?_ | refine ⟨_, U, _, U, ?_⟩ | exact VLe.refl _)); done) (by (repeat' (first | exact trivial | refine And.intro ?_ ?_ | refine ⟨_, U, _, U, _, U, ?_⟩ | exact VLe.refl _ | refine ⟨_, U, _, _, U, ?_, ?_⟩ | with_reducible exact rfl)); done))⟩
        by_cases hjn : j = n
        · subst hjn
          apply Classical.byContradiction
          intro hc2
          exact hx (htp.2 hc2)
        · exact hP j (by omega)
    · obtain rfl : n = b.toNat := by omega
      have e : rH k b t (m, bad) = (m ++ [(k, t.re (liftG b (-b)) 0)], bad) := by
        simp only [rH]
        rw [if_neg hmem, if_pos hP]
      rw [e]
      repeat' (first | ((with_reducible refine D.nil ?_); first | refine AX.nilL ?_ | refine AX.nilD (by kernel_rfl) ?_) | ((with_reducible refine D.load ?_); refine L.ldb U U U U U U ?_) | ((with_reducible refine D.move ?_); refine L.mv U U U ?_) | ((with_reducible refine D.fieldAddr ?_); refine L.fab U U U U U ?_) | ((with_reducible refine D.bin ?_); refine L.bn U U U U U ?_) | ((with_reducible refine D.call ?_); first | refine L.c2 (hup) U U U U ?_ | refine L.c2 (hcp) U U U U ?_) | ((with_reducible refine D.not ?_); refine L.ng U U U (by omega) ?_) | ((with_reducible refine D.ax ?_); first | refine L.nc U U U U ?_ | refine L.muT U U U U U U (EC.fold_of U) U U ?_) | ((with_reducible refine D.aw ?_); first | ((with_reducible refine D.sblk ?_); refine K.sq (AW.block ?_)) | refine K.sq (AW.regL ?_) | refine K.sq (K.sq ?_) | refine AW.regL ?_ | refine AW.regD mixed (by kernel_rfl) ?_ | refine AW.condS U (fun h => ?_) (fun h => ?_) | refine AW.skip ?_ | refine AW.exit ?_) | with_reducible refine K.tN ?_ | with_reducible refine K.tE ?_ | with_reducible refine K.bX (by with_unfolding_all rfl) ?_ | with_reducible refine K.uE ?_)
      all_goals first
        | (exfalso; simp at h; omega)
        | skip
      (exact K.n2 [some 0, some 1] U U U U U (by (repeat' (first | exact trivial | refine And.intro ?_ ?_ | refine ⟨_, U, _, U, _, U, ?_⟩ | exact VLe.refl _ | refine ⟨_, U, _, _, U, ?_, ?_⟩ | (simp [Sto.upd, e, putKs, putCs, hi]; done))); done) U (by simp [tupV, V.wk, V.wks, constV, Ty.view, Tm.view, e, putKs, putCs, hi]))
end Go.Ab
namespace Go.Ab
open Go Go.Proofs
set_option maxRecDepth 100000
set_option maxHeartbeats 4000000
set_option linter.all false
theorem rterm_c (ho : Int) (hh : 0 ≤ ho ∧ ho ≤ 4096) : ∀ (n : Nat) (p t : Tm) (s : MSt) (b : Int), p.full ≤ n → n < 34359738368 → 0 ≤ b → b + n < 68719476736 → p.shape = true → t.shape = true → t.full < 137438953472 →
    (∀ q ∈ p.vars 0, q.1 ≤ 268435456) → (∀ q ∈ t.vars 0, q.1 ≤ 268435456) →
    AC E 120 [.ptr 0 0, .agg p.view, .agg t.view, .i b] ⟨2, mE ho s⟩ (.tup []) ⟨2, mE ho (rT ho b p t s)⟩ := by
  intro n
  induction n with
  | zero => intro p; intros; have := p.full_pos; omega
  | succ n ih =>
  intro p t s b hsz hn hb hbn hps hts htf hpv htv
  have hsz' := p.full_eq
  have hlen := lsum_len Tm.full Tm.full_pos p.args
  have he := rT_eq ho b p t s
  have hpi : 0 ≤ p.index ∧ p.index ≤ 268435456 := by
    have h0 := shape_index hps
    by_cases hk : p.kind = 1
    · have h1 : (p.index, (0 : Int)) ∈ p.vars 0 := by rw [p.vars_eq, if_pos hk]; simp
      exact ⟨h0.1, hpv _ h1⟩
    · have := h0.2 hk; omega
  have hty := sameTy_c _ p.ty t.ty (Nat.le_refl _) (by omega)
  have hup := up_bd p.kind b
  obtain ⟨m0, bad⟩ := s
  cases bad with
  | true =>
    rw [if_pos rfl] at he
    rw [he]
    refine AC.mk Tryz.func120 rfl rfl rfl rfl rfl (Nat.le_of_ble_eq_true rfl) ?_
    repeat' (first | ((with_reducible refine D.nil ?_); refine AX.nilL ?_) | ((with_reducible refine D.load ?_); refine L.ldb U U U U U U ?_) | ((with_reducible refine D.move ?_); refine L.mv U U U ?_) | ((with_reducible refine D.fieldAddr ?_); refine L.fab U U U U U ?_) | ((with_reducible refine D.box ?_); refine L.bx U U U U ?_) | ((with_reducible refine D.ax ?_); refine L.nc U U U U ?_) | ((with_reducible refine D.aw ?_); first | refine K.sq (AW.regL ?_) | refine K.sq (K.sq ?_) | refine AW.regL ?_ | refine AW.condT U ?_ | refine AW.ret ?_) | with_reducible refine K.tN ?_ | with_reducible refine K.tR ?_)
    (exact K.n2 [some 0, some 1] U U U U U (by (repeat' (first | exact trivial | refine And.intro ?_ ?_ | refine ⟨_, U, _, U, _, U, ?_⟩ | exact VLe.refl _ | refine ⟨_, U, _, _, U, ?_, ?_⟩ | with_reducible exact rfl)); done) U (by simp [tupV, V.wk, V.wks, constV, Ty.view, Tm.view, he]))
  | false =>
  rw [if_neg (show ¬ (m0, false).2 = true by simp)] at he
  refine AC.mk Tryz.func120 rfl rfl rfl rfl rfl (Nat.le_of_ble_eq_true rfl) ?_
  repeat' (first | ((with_reducible refine D.nil ?_); refine AX.nilL ?_) | ((with_reducible refine D.load ?_); refine L.ldb U U U U U U ?_) | ((with_reducible refine D.move ?_); refine L.mv U U U ?_) | ((with_reducible refine D.fieldAddr ?_); refine L.fab U U U U U ?_) | ((with_reducible refine D.box ?_); refine L.bx U U U U ?_) | ((with_reducible refine D.ax ?_); refine L.nc U U U U ?_) | ((with_reducible refine D.aw ?_); (fail_if_success with_reducible refine D.stopR (id := 2) ?_); (fail_if_success with_reducible refine D.stopS (id := 2) ?_); first | refine K.sq (AW.regL ?_) | refine K.sq (K.sq ?_) | refine AW.regL ?_ | refine AW.condF U ?_ | refine AW.skip ?_) | with_reducible refine K.tN ?_)
  by_cases hole : p.kind = 1 ∧ b ≤ p.index ∧ p.index < b + ho
  · rw [if_pos hole] at he
    have hc := hole_c ho (p.index - b) b t (m0, false) (by omega) hts htf htv
    rw [he]
    clear ih hpv htv
    repeat' (first | ((with_reducible refine D.nil ?_); first | refine AX.nilL ?_ | refine AX.nilD (by kernel_rfl) ?_) | ((with_reducible refine D.load ?_); first | refine L.ldb U U U U U U ?_ | refine AX.sk U U ?_) | ((with_reducible refine D.move ?_); first | refine L.mv U U U ?_ | refine AX.sk U U ?_) | ((with_reducible refine D.fieldAddr ?_); first | refine L.fab U U U U U ?_ | refine AX.sk U U ?_ | ((fail_if_success refine AX.wt U ?_); refine AX.gs U U (fun _ => trivial) (fun h => ?_) (fun h => ?_))) | ((with_reducible refine D.bin ?_); first | refine L.ad U U U U (by omega) ?_ | refine L.sb U U U U (by omega) ?_ | refine L.bn U U U U U ?_ | refine AX.sk U U ?_) | ((with_reducible refine D.call ?_); (apply L.cb2 (hc) [0, 1] 0 rfl; rfl; rfl; rfl; rfl; rfl; rfl; (focus ((repeat' (first | exact trivial | refine And.intro ?_ ?_ | refine ⟨_, U, _, U, _, U, ?_⟩ | exact VLe.refl _ | refine ⟨_, U, _, _, U, ?_, ?_⟩ | with_reducible exact rfl)); done)); rfl; rfl; rfl; rfl)) | ((with_reducible refine D.pick ?_); refine L.pk U U U U ?_) | ((with_reducible refine D.ax ?_); first | refine L.nc U U U U ?_ | refine AX.sk U U ?_) | ((with_reducible refine D.aw ?_); (fail_if_success with_reducible refine D.stopR (id := 4) ?_); (fail_if_success with_reducible refine D.stopS (id := 4) ?_); first | refine K.sq (AW.regL ?_) | refine K.sq (K.sq ?_) | refine AW.regD mixed (by kernel_rfl) ?_ | refine AW.condF U ?_ | refine AW.condS U (fun h => ?_) (fun h => ?_) | refine AW.skip ?_ | refine AW.ret ?_) | with_reducible refine K.tN ?_ | with_reducible refine K.tR ?_)
    all_goals first
      | (exact K.n2 [some 0, some 1] U U U U U (by (repeat' (first | exact trivial | refine And.intro ?_ ?_ | refine ⟨_, U, _, U, _, U, ?_⟩ | exact VLe.refl _ | refine ⟨_, U, _, _, U, ?_, ?_⟩ | with_reducible exact rfl)); done) U (by simp [tupV, V.wk, V.wks, constV, Ty.view, Tm.view, he]))
      | (exfalso; simp at *; omega)
  rw [if_neg hole] at he
  refine AW.cut (ι := Unit) (fun _ => ([(0, .ptr 0 0), (3, .i b), (5, .ptr 2 0), (6, .ptr 3 0)], ⟨4, [(0, .var [.i ho, .mp 1, .bool false]), (1, .map .tm (m0.map (·.1)) (m0.map (·.2))), (2, .var p.view), (3, .var t.view)]⟩)) ?_ ?_
  · clear ih he hty hpv htv hsz'
    repeat' (first | ((with_reducible refine D.nil ?_); refine AX.nilD (by kernel_rfl) ?_) | ((with_reducible refine D.load ?_); first | refine L.ldb U U U U U U ?_ | refine AX.sk U U ?_) | ((with_reducible refine D.move ?_); first | refine L.mv U U U ?_ | refine AX.sk U U ?_) | ((with_reducible refine D.fieldAddr ?_); first | refine L.fab U U U U U ?_ | refine AX.sk U U ?_ | ((fail_if_success refine AX.wt U ?_); refine AX.gs U U (fun _ => trivial) (fun h => ?_) (fun h => ?_))) | ((with_reducible refine D.bin ?_); first | refine L.ad U U U U (by omega) ?_ | refine L.sb U U U U (by omega) ?_ | refine L.bn U U U U U ?_ | refine AX.sk U U ?_) | ((with_reducible refine D.pick ?_); refine L.pk U U U U ?_) | ((with_reducible refine D.ax ?_); first | refine L.nc U U U U ?_ | refine AX.sk U U ?_) | ((with_reducible refine D.aw ?_); first | refine K.sq (AW.regL ?_) | refine K.sq (AW.regD mixed (by kernel_rfl) ?_) | refine AW.condF U ?_ | refine AW.condS U (fun h => ?_) (fun h => ?_) | refine AW.skip ?_) | with_reducible refine K.tN ?_)
    all_goals first
      | (exfalso; simp at *; omega)
      | exact ⟨(), (Weak.mk [some 0, some 1, some 2, some 3] _ _ _ U U U U (by (repeat' (first | exact trivial | refine And.intro ?_ ?_ | refine ⟨_, U, _, U, ?_⟩ | exact VLe.refl _)); done) (by (repeat' (first | exact trivial | refine And.intro ?_ ?_ | refine ⟨_, U, _, U, _, U, ?_⟩ | exact VLe.refl _ | refine ⟨_, U, _, _, U, ?_, ?_⟩ | with_reducible exact rfl)); done))⟩
  intro _
  repeat' (first | ((with_reducible refine D.nil ?_); refine AX.nilL ?_) | ((with_reducible refine D.load ?_); refine L.ldb U U U U U U ?_) | ((with_reducible refine D.fieldAddr ?_); refine L.fab U U U U U ?_) | ((with_reducible refine D.assign ?_); refine L.asg U U U ?_) | ((with_reducible refine D.aw ?_); (fail_if_success with_reducible refine D.stopR (id := 5) ?_); (fail_if_success with_reducible refine D.stopS (id := 5) ?_); refine K.sq (AW.regL ?_)) | with_reducible refine K.tN ?_)
  refine AW.cut (ι := Unit) (fun _ => ([(0, .ptr 0 0), (3, .i b), (5, .ptr 2 0), (6, .ptr 3 0), (8, .i (if p.kind = 1 ∧ b + ho ≤ p.index then p.index - ho else p.index))], ⟨4, [(0, .var [.i ho, .mp 1, .bool false]), (1, .map .tm (m0.map (·.1)) (m0.map (·.2))), (2, .var p.view), (3, .var t.view)]⟩)) ?_ ?_
  · clear ih he hty hpv htv hsz'
    repeat' (first | ((with_reducible refine D.nil ?_); first | refine AX.nilL ?_ | refine AX.nilD (by kernel_rfl) ?_) | ((with_reducible refine D.load ?_); first | refine L.ldb U U U U U U ?_ | refine AX.sk U U ?_) | ((with_reducible refine D.move ?_); first | refine L.mv U U U ?_ | refine AX.sk U U ?_) | ((with_reducible refine D.fieldAddr ?_); first | refine L.fab U U U U U ?_ | refine AX.sk U U ?_ | ((fail_if_success refine AX.wt U ?_); refine AX.gs U U (fun _ => trivial) (fun h => ?_) (fun h => ?_))) | ((with_reducible refine D.assign ?_); refine L.asg U U U ?_) | ((with_reducible refine D.bin ?_); first | refine L.ad U U U U (by omega) ?_ | refine L.sb U U U U (by omega) ?_ | refine L.bn U U U U U ?_ | refine AX.sk U U ?_) | ((with_reducible refine D.pick ?_); refine L.pk U U U U ?_) | ((with_reducible refine D.ax ?_); first | refine L.nc U U U U ?_ | refine AX.sk U U ?_) | ((with_reducible refine D.aw ?_); first | refine K.sq (AW.regD mixed (by kernel_rfl) ?_) | refine AW.regL ?_ | refine AW.condF U ?_ | refine AW.condS U (fun h => ?_) (fun h => ?_) | refine AW.skip ?_) | with_reducible refine K.tN ?_)
    · have e : (if p.kind = 1 ∧ b + ho ≤ p.index then p.index - ho else p.index) = p.index - ho := if_pos (by simp at *; omega)
      rw [e]
      exact ⟨(), (Weak.mk [some 0, some 1, some 2, some 3] _ _ _ U U U U (by (repeat' (first | exact trivial | refine And.intro ?_ ?_ | refine ⟨_, U, _, U, ?_⟩ | exact VLe.refl _)); done) (by (repeat' (first | exact trivial | refine And.intro ?_ ?_ | refine ⟨_, U, _, U, _, U, ?_⟩ | exact VLe.refl _ | refine ⟨_, U, _, _, U, ?_, ?_⟩ | with_reducible exact rfl)); done))⟩
    · have e : (if p.kind = 1 ∧ b + ho ≤ p.index then p.index - ho else p.index) = p.index := if_neg (by simp at *; omega)
      rw [e]
      exact ⟨(), (Weak.mk [some 0, some 1, some 2, some 3] _ _ _ U U U U (by (repeat' (first | exact trivial | refine And.intro ?_ ?_ | refine ⟨_, U, _, U, ?_⟩ | exact VLe.refl _)); done) (by (repeat' (first | exact trivial | refine And.intro ?_ ?_ | refine ⟨_, U, _, U, _, U, ?_⟩ | exact VLe.refl _ | refine ⟨_, U, _, _, U, ?_, ?_⟩ | with_reducible exact rfl)); done))⟩
    · have e : (if p.kind = 1 ∧ b + ho ≤ p.index then p.index - ho else p.index) = p.index := if_neg (by simp at *; omega)
      rw [e]
      exact ⟨(), (Weak.mk [some 0, some 1, some 2, some 3] _ _ _ U U U U (by (repeat' (first | exact trivial | refine And.intro ?_ ?_ | refine ⟨_, U, _, U, ?_⟩ | exact VLe.refl _)); done) (by (repeat' (first | exact trivial | refine And.intro ?_ ?_ | refine ⟨_, U, _, U, _, U, ?_⟩ | exact VLe.refl _ | refine ⟨_, U, _, _, U, ?_, ?_⟩ | with_reducible exact rfl)); done))⟩
  intro _
  generalize (if p.kind = 1 ∧ b + ho ≤ p.index then p.index - ho else p.index) = x at he
  by_cases hr : p.kind = t.kind ∧ x = t.index ∧ p.ty = t.ty ∧ p.args.length = t.args.length
  case neg =>
    rw [if_neg hr] at he
    rw [he]
    clear ih hpv htv hsz'
    repeat' (first | ((with_reducible refine D.nil ?_); refine AX.nilL ?_) | ((with_reducible refine D.load ?_); first | refine L.ldb U U U U U U ?_ | refine AX.sk U U ?_) | ((with_reducible refine D.move ?_); first | refine L.mv U U U ?_ | refine AX.sk U U ?_ | ((fail_if_success refine AX.wt U ?_); refine AX.gs U U (fun _ => trivial) (fun h => ?_) (fun h => ?_))) | ((with_reducible refine D.fieldAddr ?_); first | refine L.fab U U U U U ?_ | refine AX.sk U U ?_ | ((fail_if_success refine AX.wt U ?_); refine AX.gs U U (fun _ => trivial) (fun h => ?_) (fun h => ?_))) | ((with_reducible refine D.bin ?_); first | refine L.bn U U U U U ?_ | refine AX.sk U U ?_) | ((with_reducible refine D.call ?_); first | refine L.lnt U U U U ?_ | refine L.c2 (hty) U U U U ?_ | refine AX.sk U U ?_) | ((with_reducible refine D.store ?_); refine L.st U U U U U U U U U ?_) | ((with_reducible refine D.not ?_); first | refine L.nt U U U ?_ | refine AX.sk U U ?_) | ((with_reducible refine D.pick ?_); refine L.pk U U U U ?_) | ((with_reducible refine D.ax ?_); refine L.nc U U U U ?_) | ((with_reducible refine D.aw ?_); (fail_if_success with_reducible refine D.stopR (id := 9) ?_); (fail_if_success with_reducible refine D.stopS (id := 9) ?_); first | refine K.sq (AW.regL ?_) | refine K.sq (K.sq ?_) | refine AW.regL ?_ | refine AW.condT U ?_ | refine AW.condS U (fun h => ?_) (fun h => ?_) | refine AW.skip ?_ | refine AW.ret ?_) | with_reducible refine K.tN ?_ | with_reducible refine K.tR ?_)
    all_goals first
      | (exact K.n2 [some 0, some 1] U U U U U (by (repeat' (first | exact trivial | refine And.intro ?_ ?_ | refine ⟨_, U, _, U, _, U, ?_⟩ | exact VLe.refl _ | refine ⟨_, U, _, _, U, ?_, ?_⟩ | with_reducible exact rfl)); done) U (by simp [tupV, V.wk, V.wks, constV, Ty.view, Tm.view, he]))
      | (exfalso; simp at *; omega)
      | (exfalso; simp at *; exact hr (by assumption) (by assumption) (by assumption) (by omega))
  rw [if_pos hr] at he
  obtain ⟨hr1, hr2, hr3, hr4⟩ := hr
  refine AW.cut (ι := Unit) (fun _ => ([(0, .ptr 0 0), (3, .i b), (5, .ptr 2 0), (6, .ptr 3 0)], ⟨4, [(0, .var [.i ho, .mp 1, .bool false]), (1, .map .tm (m0.map (·.1)) (m0.map (·.2))), (2, .var p.view), (3, .var t.view)]⟩)) ?_ ?_
  · clear ih he hpv htv hsz'
    repeat' (first | ((with_reducible refine D.nil ?_); refine AX.nilL ?_) | ((with_reducible refine D.load ?_); first | refine L.ldb U U U U U U ?_ | refine AX.sk U U ?_) | ((with_reducible refine D.move ?_); first | refine L.mv U U U ?_ | refine AX.sk U U ?_ | ((fail_if_success refine AX.wt U ?_); refine AX.gs U U (fun _ => trivial) (fun h => ?_) (fun h => ?_))) | ((with_reducible refine D.fieldAddr ?_); first | refine L.fab U U U U U ?_ | refine AX.sk U U ?_ | ((fail_if_success refine AX.wt U ?_); refine AX.gs U U (fun _ => trivial) (fun h => ?_) (fun h => ?_))) | ((with_reducible refine D.bin ?_); first | refine L.bn U U U U U ?_ | refine AX.sk U U ?_) | ((with_reducible refine D.call ?_); first | refine L.lnt U U U U ?_ | refine L.c2 (hty) U U U U ?_ | refine AX.sk U U ?_) | ((with_reducible refine D.store ?_); refine L.st U U U U U U U U U ?_) | ((with_reducible refine D.not ?_); first | refine L.nt U U U ?_ | refine AX.sk U U ?_) | ((with_reducible refine D.pick ?_); refine L.pk U U U U ?_) | ((with_reducible refine D.ax ?_); refine L.nc U U U U ?_) | ((with_reducible refine D.aw ?_); first | refine K.sq (AW.regL ?_) | refine AW.condT U ?_ | refine AW.condS U (fun h => ?_) (fun h => ?_) | refine AW.skip ?_ | refine AW.ret ?_) | with_reducible refine K.tN ?_ | with_reducible refine K.cR ?_)
    all_goals first
      | exact ⟨(), (Weak.mk [some 0, some 1, some 2, some 3] _ _ _ U U U U (by (repeat' (first | exact trivial | refine And.intro ?_ ?_ | refine ⟨_, U, _, U, ?_⟩ | exact VLe.refl _)); done) (by (repeat' (first | exact trivial | refine And.intro ?_ ?_ | refine ⟨_, U, _, U, _, U, ?_⟩ | exact VLe.refl _ | refine ⟨_, U, _, _, U, ?_, ?_⟩ | with_reducible exact rfl)); done))⟩
      | (exfalso; simp at *; omega)
      | (exfalso; simp at *; contradiction)
  intro _
  refine AW.cut (ι := Unit) (fun _ => ([(0, .ptr 0 0), (3, .i (up p.kind b)), (5, .ptr 2 0), (6, .ptr 3 0)], ⟨4, [(0, .var [.i ho, .mp 1, .bool false]), (1, .map .tm (m0.map (·.1)) (m0.map (·.2))), (2, .var p.view), (3, .var t.view)]⟩)) ?_ ?_
  · clear ih he hpv htv hsz'
    repeat' (first | ((with_reducible refine D.nil ?_); refine AX.nilL ?_) | ((with_reducible refine D.load ?_); refine L.ldb U U U U U U ?_) | ((with_reducible refine D.move ?_); refine L.mv U U U ?_) | ((with_reducible refine D.fieldAddr ?_); refine L.fab U U U U U ?_) | ((with_reducible refine D.assign ?_); refine L.asg U U U ?_) | ((with_reducible refine D.bin ?_); first | refine L.ad U U U U (by omega) ?_ | refine L.bn U U U U U ?_) | ((with_reducible refine D.aw ?_); first | refine K.sq (AW.regL ?_) | refine AW.regL ?_ | refine AW.condS U (fun h => ?_) (fun h => ?_) | refine AW.skip ?_) | with_reducible refine K.tN ?_)
    · have e : up p.kind b = b + 1 := if_pos (by simpa using h)
      rw [e]
      exact ⟨(), (Weak.mk [some 0, some 1, some 2, some 3] _ _ _ U U U U (by (repeat' (first | exact trivial | refine And.intro ?_ ?_ | refine ⟨_, U, _, U, ?_⟩ | exact VLe.refl _)); done) (by (repeat' (first | exact trivial | refine And.intro ?_ ?_ | refine ⟨_, U, _, U, _, U, ?_⟩ | exact VLe.refl _ | refine ⟨_, U, _, _, U, ?_, ?_⟩ | with_reducible exact rfl)); done))⟩
    · have e : up p.kind b = b := if_neg (by simpa using h)
      rw [e]
      exact ⟨(), (Weak.mk [some 0, some 1, some 2, some 3] _ _ _ U U U U (by (repeat' (first | exact trivial | refine And.intro ?_ ?_ | refine ⟨_, U, _, U, ?_⟩ | exact VLe.refl _)); done) (by (repeat' (first | exact trivial | refine And.intro ?_ ?_ | refine ⟨_, U, _, U, _, U, ?_⟩ | exact VLe.refl _ | refine ⟨_, U, _, _, U, ?_, ?_⟩ | with_reducible exact rfl)); done))⟩
  intro _
  repeat' (first | ((with_reducible refine D.nil ?_); refine AX.nilL ?_) | ((with_reducible refine D.load ?_); refine L.ldb U U U U U U ?_) | ((with_reducible refine D.move ?_); refine L.mv U U U ?_) | ((with_reducible refine D.fieldAddr ?_); refine L.fab U U U U U ?_) | ((with_reducible refine D.call ?_); refine L.lnt U U U U ?_) | ((with_reducible refine D.aw ?_); refine K.sq (AW.regL ?_)) | with_reducible refine K.tN ?_)
  refine AW.range p.args.length (fun k => True)
    (fun k => ([(0, .ptr 0 0), (3, .i (up p.kind b)), (5, .ptr 2 0), (6, .ptr 3 0), (101, .s .tm p.args), (102, .i p.args.length), (103, .i k)], ⟨4, [(0, .var [.i ho, .mp 1, .bool (rTs ho (up p.kind b) (p.args.take k) (t.args.take k) (m0, false)).2]), (1, .map .tm ((rTs ho (up p.kind b) (p.args.take k) (t.args.take k) (m0, false)).1.map (·.1)) ((rTs ho (up p.kind b) (p.args.take k) (t.args.take k) (m0, false)).1.map (·.2))), (2, .var p.view), (3, .var t.view)]⟩))
    (by omega) (fun m => rfl) (fun m => rfl) U trivial (Weak.mk [some 0, some 1, some 2, some 3] _ _ _ U U U U (by (repeat' (first | exact trivial | refine And.intro ?_ ?_ | refine ⟨_, U, _, U, ?_⟩ | exact VLe.refl _)); done) (by (repeat' (first | exact trivial | refine And.intro ?_ ?_ | refine ⟨_, U, _, U, _, U, ?_⟩ | exact VLe.refl _ | refine ⟨_, U, _, _, U, ?_, ?_⟩ | (simp [Sto.upd, rTs]; done))); done)) ?_ ?_
  · intro k hk _
    have hk2 : k < t.args.length := by omega
    have hs2 := lsum_mem Tm.full (List.getElem_mem hk)
    have hs3 := lsum_mem Tm.full (List.getElem_mem hk2)
    have hs4 := t.full_eq
    have hc := ih p.args[k] t.args[k] (rTs ho (up p.kind b) (p.args.take k) (t.args.take k) (m0, false)) (up p.kind b) (by omega) (by omega) (by omega) (by omega) (shape_args hps _ (List.getElem_mem hk)) (shape_args hts _ (List.getElem_mem hk2)) (by omega)
      (vars_bd hpv (List.getElem_mem hk)) (vars_bd htv (List.getElem_mem hk2))
    have htk := rTs_take ho (up p.kind b) p.args t.args (m0, false) k hk hk2
    generalize rTs ho (up p.kind b) (p.args.take k) (t.args.take k) (m0, false) = s at hc htk
    repeat' (first | ((with_reducible refine D.nil ?_); first | refine AX.nilL ?_ | refine AX.nilD (by kernel_rfl) ?_) | ((with_reducible refine D.load ?_); first | refine L.ldb U U U U U U ?_ | refine L.lda U U U U U ?_) | ((with_reducible refine D.move ?_); refine L.mv U U U ?_) | ((with_reducible refine D.fieldAddr ?_); refine L.fab U U U U U ?_) | ((with_reducible refine D.assign ?_); refine L.asg U U U ?_) | ((with_reducible refine D.call ?_); (apply L.cb2 (hc) [0, 1] 0 rfl; rfl; rfl; rfl; rfl; rfl; rfl; (focus ((repeat' (first | exact trivial | refine And.intro ?_ ?_ | refine ⟨_, U, _, U, _, U, ?_⟩ | exact VLe.refl _ | refine ⟨_, U, _, _, U, ?_, ?_⟩ | with_reducible exact rfl)); done)); rfl; rfl; rfl; rfl)) | ((with_reducible refine D.indexAddr ?_); refine L.ixt _ U U U U U U U (by assumption) ?_) | ((with_reducible refine D.aw ?_); first | refine K.sq (AW.regL ?_) | refine AW.regD mixed (by kernel_rfl) ?_) | with_reducible refine K.tN ?_ | with_reducible refine K.bN ?_)
    refine ⟨rfl, trivial, ?_⟩
    simp only [htk]
    exact (Weak.mk [some 0, some 1, some 2, some 3] _ _ _ U U U U (by (repeat' (first | exact trivial | refine And.intro ?_ ?_ | refine ⟨_, U, _, U, ?_⟩ | exact VLe.refl _)); done) (by (repeat' (first | exact trivial | refine And.intro ?_ ?_ | refine ⟨_, U, _, U, _, U, ?_⟩ | exact VLe.refl _ | refine ⟨_, U, _, _, U, ?_, ?_⟩ | with_reducible exact rfl)); done))
  · intro _
    rw [List.take_of_length_le (Nat.le_refl _), List.take_of_length_le (show t.args.length ≤ p.args.length by omega)]
    rw [he]
    skip
    (exact K.n2 [some 0, some 1] U U U U U (by (repeat' (first | exact trivial | refine And.intro ?_ ?_ | refine ⟨_, U, _, U, _, U, ?_⟩ | exact VLe.refl _ | refine ⟨_, U, _, _, U, ?_, ?_⟩ | with_reducible exact rfl)); done) U (by simp [tupV, V.wk, V.wks, constV, Ty.view, Tm.view, he]))
end Go.Ab
namespace Go.Ab
open Go Go.Proofs
set_option maxRecDepth 100000
set_option maxHeartbeats 4000000
set_option linter.all false
theorem rinF_c (at_ : Int) (s : Tm) (hat : 0 ≤ at_ ∧ at_ < 137438953472) (hs : s.shape = true) (hsf : s.full < 137438953472) (hsi : ∀ p ∈ s.vars 0, 0 ≤ p.1 ∧ p.1 < 274877906944) : ∀ (n : Nat) (f : Fm) (dp : Int), f.full ≤ n → n < 137438953472 → 0 ≤ dp → dp + n < 274877906944 → f.shape = true → (∀ p ∈ f.tms 0, ∀ q ∈ p.1.vars 0, 0 ≤ q.1 ∧ q.1 < 274877906944) →
    PC E 119 [.agg f.view, .i at_, .i dp, .agg s.view] (.agg (f.re (fun b t => t.re (putG at_ s) b) dp).view) := by
  intro n
  induction n with
  | zero => intro f dp h; have := f.full_pos; omega
  | succ n ih =>
  intro f dp hsz hn h1 h2 hf hix
  have hsz' := f.full_eq
  have hlen := lsum_len Fm.full Fm.full_pos f.args
  have hlen2 := lsum_len Tm.full Tm.full_pos f.terms
  have hup := upF_le f.kind dp
  have hpl := upF_plus f.kind dp
  have hb := rfbelow_c f
  have he := Fm.re_eq (fun b t => t.re (putG at_ s) b) dp f
  have htm := f.tms_eq 0
  refine AC.mk Tryz.func119 rfl rfl rfl rfl rfl (Nat.le_of_ble_eq_true rfl) ?_
  repeat' (first | ((with_reducible refine D.nil ?_); refine AX.nilL ?_) | ((with_reducible refine D.load ?_); refine L.ldb U U U U U U ?_) | ((with_reducible refine D.move ?_); refine L.mv U U U ?_) | ((with_reducible refine D.fieldAddr ?_); refine L.fab U U U U U ?_) | ((with_reducible refine D.call ?_); refine L.lnt U U U U ?_) | ((with_reducible refine D.box ?_); refine L.bx U U U U ?_) | ((with_reducible refine D.alloc ?_); refine L.al U U U ?_) | ((with_reducible refine D.store ?_); refine L.st U U U U U U U U U ?_) | ((with_reducible refine D.ax ?_); refine L.bd U U U U U ?_) | ((with_reducible refine D.aw ?_); first | refine K.sq (AW.regL ?_) | refine K.sq (K.sq ?_) | refine AW.regL ?_) | with_reducible refine K.tN ?_)
  refine AW.range f.terms.length (fun m => True) (fun m => ([(1, .i at_), (2, .i dp), (4, .ptr 0 0), (7, .ptr 1 0), (8, .ptr 2 0), (9, .ptr 3 0), (20, .s .tm f.terms), (21, .i f.terms.length), (22, .i m)], ⟨5, [(0, .var f.view), (1, .var s.view), (2, .var [.i 0, .i 0, .slice .nil (.t .ty []), .slice .nil (.t .tm []), .slice .nil (.t .fm [])]), (3, .var [.i f.kind, .i f.ty.kind, .s .ty f.ty.args, .slice (.own 4) (.t .tm ((f.terms.take m).map fun t => t.re (putG at_ s) dp)), .slice .nil (.t .fm [])]), (4, .row)]⟩))
    (by omega) (fun m => rfl) (fun m => rfl) U trivial (Weak.mk [some 0, some 1, some 2, some 3, none] _ _ _ U U U U (by (repeat' (first | exact trivial | refine And.intro ?_ ?_ | refine ⟨_, U, _, U, ?_⟩ | exact VLe.refl _)); done) (by (repeat' (first | exact trivial | exact Or.inl U | refine And.intro ?_ ?_ | refine ⟨_, U, _, U, _, U, ?_⟩ | exact VLe.refl _)); done)) ?_ ?_
  · intro m hm _
    have hs2 := lsum_mem Tm.full (List.getElem_mem hm)
    have hc := rin_c at_ s hat hs hsf hsi _ f.terms[m] dp (Nat.le_refl _) (by omega) (by omega) (by omega) (fshape_terms hf (List.getElem_mem hm)) (fun p hp => hix (f.terms[m], 0) (by rw [htm]; exact List.mem_append_left _ (List.mem_map.2 ⟨_, List.getElem_mem hm, rfl⟩)) p hp)
    repeat' (first | ((with_reducible refine D.nil ?_); first | refine AX.nilL ?_ | refine AX.nilD (by kernel_rfl) ?_) | ((with_reducible refine D.load ?_); first | refine L.ldb U U U U U U ?_ | refine L.lda U U U U U ?_) | ((with_reducible refine D.move ?_); refine L.mv U U U ?_) | ((with_reducible refine D.fieldAddr ?_); refine L.fab U U U U U ?_) | ((with_reducible refine D.call ?_); first | refine L.apt U U U U U U (by first | exact trivial | exact ⟨rfl, trivial⟩) U U (by first | omega | (simp; omega)) ?_ | refine L.c2 (hc) U U U U ?_) | ((with_reducible refine D.alloc ?_); refine L.al U U U ?_) | ((with_reducible refine D.store ?_); refine L.st U U U U U U U U U ?_) | ((with_reducible refine D.indexAddr ?_); refine L.ixt _ U U U U U U U (by assumption) ?_) | ((with_reducible refine D.ax ?_); refine L.bs1 U U U U U (EC.fold_of U) U U ?_) | ((with_reducible refine D.aw ?_); first | refine K.sq (AW.regL ?_) | refine AW.regD mixed (by kernel_rfl) ?_) | with_reducible refine K.tN ?_ | with_reducible refine K.bN ?_)
    exact ⟨rfl, trivial, (Weak.mk [some 0, some 1, some 2, some 3, some 6] _ _ _ U U U U (by (repeat' (first | exact trivial | refine And.intro ?_ ?_ | refine ⟨_, U, _, U, ?_⟩ | exact VLe.refl _)); done) (by (repeat' (first | exact trivial | exact Or.inr ⟨_, U, rfl⟩ | refine And.intro ?_ ?_ | refine ⟨_, U, _, U, _, U, ?_⟩ | exact VLe.refl _ | exact VLe.of_eq (by simp [Sto.upd, map_take _ _ _ hm]))); done))⟩
  · intro _
    simp only [List.take_length]
    repeat' (first | ((with_reducible refine D.nil ?_); refine AX.nilL ?_) | ((with_reducible refine D.load ?_); refine L.ldb U U U U U U ?_) | ((with_reducible refine D.move ?_); refine L.mv U U U ?_) | ((with_reducible refine D.fieldAddr ?_); refine L.fab U U U U U ?_) | ((with_reducible refine D.call ?_); refine L.lnt U U U U ?_) | ((with_reducible refine D.aw ?_); first | refine K.sq (K.sq ?_) | refine AW.regL ?_) | with_reducible refine K.tN ?_)
    refine AW.range f.args.length (fun m => True) (fun m => ([(1, .i at_), (2, .i dp), (4, .ptr 0 0), (7, .ptr 1 0), (8, .ptr 2 0), (9, .ptr 3 0), (38, .s .fm f.args), (39, .i f.args.length), (40, .i m)], ⟨6, [(0, .var f.view), (1, .var s.view), (2, .var [.i 0, .i 0, .slice .nil (.t .ty []), .slice .nil (.t .tm []), .slice .nil (.t .fm [])]), (3, .var [.i f.kind, .i f.ty.kind, .s .ty f.ty.args, .slice (.own 4) (.t .tm (f.terms.map fun t => t.re (putG at_ s) dp)), .slice (.own 5) (.t .fm ((f.args.take m).map fun x => x.re (fun b t => t.re (putG at_ s) b) (upF f.kind dp)))]), (4, .row), (5, .row)]⟩))
      (by omega) (fun m => rfl) (fun m => rfl) U trivial (Weak.mk [some 0, some 1, some 2, some 3, some 4, none] _ _ _ U U U U (by (repeat' (first | exact trivial | refine And.intro ?_ ?_ | refine ⟨_, U, _, U, ?_⟩ | exact VLe.refl _)); done) (by (repeat' (first | exact trivial | exact Or.inl U | exact Or.inr ⟨_, U, rfl⟩ | refine And.intro ?_ ?_ | refine ⟨_, U, _, U, _, U, ?_⟩ | exact VLe.refl _)); done)) ?_ ?_
    · intro m hm _
      have hs2 := lsum_mem Fm.full (List.getElem_mem hm)
      have hc := ih f.args[m] (upF f.kind dp) (by omega) (by omega) (by omega) (by omega) (fshape_args hf (List.getElem_mem hm)) (fun p hp q hq => by
        obtain ⟨p', hp', hpe⟩ := tms_idx (b' := upF f.kind 0) p hp
        rw [← hpe] at hq
        exact hix p' (by rw [htm]; exact List.mem_append_right _ (List.mem_flatMap.2 ⟨_, List.getElem_mem hm, hp'⟩)) q hq)
      rw [← hpl] at hc
      simp only [← hpl]
      repeat' (first | ((with_reducible refine D.nil ?_); first | refine AX.nilL ?_ | refine AX.nilD (by kernel_rfl) ?_) | ((with_reducible refine D.load ?_); first | refine L.ldb U U U U U U ?_ | refine L.lda U U U U U ?_) | ((with_reducible refine D.move ?_); refine L.mv U U U ?_) | ((with_reducible refine D.fieldAddr ?_); refine L.fab U U U U U ?_) | ((with_reducible refine D.bin ?_); refine L.ad U U U U (by omega) ?_) | ((with_reducible refine D.call ?_); first | refine L.apt U U U U U U (by first | exact trivial | exact ⟨rfl, trivial⟩) U U (by first | omega | (simp; omega)) ?_ | refine L.c2 (hb) U U U U ?_ | refine L.c2 (hc) U U U U ?_) | ((with_reducible refine D.alloc ?_); refine L.al U U U ?_) | ((with_reducible refine D.store ?_); refine L.st U U U U U U U U U ?_) | ((with_reducible refine D.indexAddr ?_); refine L.ixt _ U U U U U U U (by assumption) ?_) | ((with_reducible refine D.ax ?_); refine L.bs1 U U U U U (EC.fold_of U) U U ?_) | ((with_reducible refine D.aw ?_); first | refine K.sq (AW.regL ?_) | refine AW.regD mixed (by kernel_rfl) ?_) | with_reducible refine K.tN ?_ | with_reducible refine K.bN ?_)
      exact ⟨rfl, trivial, (Weak.mk [some 0, some 1, some 2, some 3, some 4, some 7] _ _ _ U U U U (by (repeat' (first | exact trivial | refine And.intro ?_ ?_ | refine ⟨_, U, _, U, ?_⟩ | exact VLe.refl _)); done) (by (repeat' (first | exact trivial | exact Or.inr ⟨_, U, rfl⟩ | refine And.intro ?_ ?_ | refine ⟨_, U, _, U, _, U, ?_⟩ | exact VLe.refl _ | exact VLe.of_eq (by simp [Sto.upd, map_take _ _ _ hm]))); done))⟩
    · intro _
      simp only [List.take_length]
      repeat' (first | ((with_reducible refine D.nil ?_); refine AX.nilL ?_) | ((with_reducible refine D.load ?_); refine L.ldb U U U U U U ?_) | ((with_reducible refine D.store ?_); refine L.st U U U U U U U U U ?_) | ((with_reducible refine D.aw ?_); first | refine K.sq (AW.regL ?_) | refine AW.ret ?_) | with_reducible refine K.tN ?_ | with_reducible refine K.r1 (by with_unfolding_all rfl) (by with_unfolding_all rfl) ?_)
      rw [he]
      rfl
theorem fputR_c (f : Fm) (at_ : Int) (s : Tm) (hf : f.full < 549755813888) (hs : s.full < 549755813888) : PC E 60 [.agg f.view, .i at_, .agg s.view] (.tup [.agg (if putFErr f at_ s = 0 then f.put at_ s else noFm).view, .i (putFErr f at_ s)]) := by
  have h1 := fcheckR_c f hf
  have h2 := checkTmR_c s (by omega)
  by_cases he : f.err = 0
  case neg =>
    have e : putFErr f at_ s = f.err := by simp only [putFErr]; rw [if_pos he]
    rw [e, if_neg he]
    refine AC.mk Tryz.func60 rfl rfl rfl rfl rfl (Nat.le_of_ble_eq_true rfl) ?_
    repeat' (first | ((with_reducible refine D.nil ?_); refine AX.nilL ?_) | ((with_reducible refine D.load ?_); refine L.ldb U U U U U U ?_) | ((with_reducible refine D.move ?_); refine L.mv U U U ?_) | ((with_reducible refine D.assign ?_); refine L.asg U U U ?_) | ((with_reducible refine D.bin ?_); refine L.bn U U U U U ?_) | ((with_reducible refine D.call ?_); refine L.c2 (h1) U U U U ?_) | ((with_reducible refine D.box ?_); refine L.bx U U U U ?_) | ((with_reducible refine D.alloc ?_); refine L.al U U U ?_) | ((with_reducible refine D.store ?_); refine L.st U U U U U U U U U ?_) | ((with_reducible refine D.ax ?_); refine L.bd U U U U U ?_) | ((with_reducible refine D.aw ?_); (fail_if_success with_reducible refine D.stopR (id := 4) ?_); (fail_if_success with_reducible refine D.stopS (id := 4) ?_); first | refine K.sq (AW.regL ?_) | refine K.sq (K.sq ?_) | refine AW.regL ?_ | refine AW.condS U (fun h => ?_) (fun h => ?_) | refine AW.skip ?_ | refine AW.ret ?_) | with_reducible refine K.tN ?_ | with_reducible refine K.tR ?_ | with_reducible refine K.r1 (by with_unfolding_all rfl) (by with_unfolding_all rfl) ?_)
    all_goals first
      | rfl
      | (exfalso; simp at h; exact he h)
  rw [he] at h1
  by_cases ha : 0 ≤ at_ ∧ at_ ≤ 4096
  case neg =>
    have e : putFErr f at_ s = 1 := by simp only [putFErr]; rw [if_neg (by simp [he]), if_pos ha]
    rw [e, if_neg (by decide)]
    refine AC.mk Tryz.func60 rfl rfl rfl rfl rfl (Nat.le_of_ble_eq_true rfl) ?_
    repeat' (first | ((with_reducible refine D.nil ?_); refine AX.nilL ?_) | ((with_reducible refine D.load ?_); refine L.ldb U U U U U U ?_) | ((with_reducible refine D.move ?_); first | refine L.mv U U U ?_ | refine AX.sk U U ?_ | ((fail_if_success refine AX.wt U ?_); refine AX.gs U U (fun _ => trivial) (fun h => ?_) (fun h => ?_))) | ((with_reducible refine D.assign ?_); refine L.asg U U U ?_) | ((with_reducible refine D.bin ?_); first | refine L.bn U U U U U ?_ | refine AX.sk U U ?_) | ((with_reducible refine D.call ?_); refine L.c2 (h1) U U U U ?_) | ((with_reducible refine D.box ?_); refine L.bx U U U U ?_) | ((with_reducible refine D.alloc ?_); refine L.al U U U ?_) | ((with_reducible refine D.store ?_); refine L.st U U U U U U U U U ?_) | ((with_reducible refine D.pick ?_); refine L.pk U U U U ?_) | ((with_reducible refine D.ax ?_); refine L.bd U U U U U ?_) | ((with_reducible refine D.aw ?_); (fail_if_success with_reducible refine D.stopR (id := 6) ?_); (fail_if_success with_reducible refine D.stopS (id := 6) ?_); first | refine K.sq (AW.regL ?_) | refine K.sq (K.sq ?_) | refine AW.regL ?_ | refine AW.condT U ?_ | refine AW.condF U ?_ | refine AW.condS U (fun h => ?_) (fun h => ?_) | refine AW.skip ?_ | refine AW.ret ?_) | with_reducible refine K.tN ?_ | with_reducible refine K.tR ?_ | with_reducible refine K.r1 (by with_unfolding_all rfl) (by with_unfolding_all rfl) ?_)
    all_goals first
      | rfl
      | (exfalso; simp at h; omega)
      | (exfalso; simp at *; omega)
  by_cases hse : s.err = 0
  case neg =>
    have e : putFErr f at_ s = s.err := by simp only [putFErr]; rw [if_neg (by simp [he]), if_neg (by simp; omega), if_pos hse]
    rw [e, if_neg hse]
    refine AC.mk Tryz.func60 rfl rfl rfl rfl rfl (Nat.le_of_ble_eq_true rfl) ?_
    repeat' (first | ((with_reducible refine D.nil ?_); refine AX.nilL ?_) | ((with_reducible refine D.load ?_); refine L.ldb U U U U U U ?_) | ((with_reducible refine D.move ?_); first | refine L.mv U U U ?_ | refine AX.sk U U ?_ | ((fail_if_success refine AX.wt U ?_); refine AX.gs U U (fun _ => trivial) (fun h => ?_) (fun h => ?_))) | ((with_reducible refine D.assign ?_); refine L.asg U U U ?_) | ((with_reducible refine D.bin ?_); first | refine L.bn U U U U U ?_ | refine AX.sk U U ?_) | ((with_reducible refine D.call ?_); first | refine L.c2 (h1) U U U U ?_ | refine L.c2 (h2) U U U U ?_) | ((with_reducible refine D.box ?_); refine L.bx U U U U ?_) | ((with_reducible refine D.alloc ?_); refine L.al U U U ?_) | ((with_reducible refine D.store ?_); refine L.st U U U U U U U U U ?_) | ((with_reducible refine D.pick ?_); refine L.pk U U U U ?_) | ((with_reducible refine D.ax ?_); refine L.bd U U U U U ?_) | ((with_reducible refine D.aw ?_); (fail_if_success with_reducible refine D.stopR (id := 5) ?_); (fail_if_success with_reducible refine D.stopS (id := 5) ?_); (fail_if_success with_reducible refine D.stopR (id := 9) ?_); (fail_if_success with_reducible refine D.stopS (id := 9) ?_); first | refine K.sq (AW.regL ?_) | refine K.sq (K.sq ?_) | refine AW.regL ?_ | refine AW.condT U ?_ | refine AW.condF U ?_ | refine AW.condS U (fun h => ?_) (fun h => ?_) | refine AW.skip ?_ | refine AW.ret ?_) | with_reducible refine K.tN ?_ | with_reducible refine K.tR ?_ | with_reducible refine K.r1 (by with_unfolding_all rfl) (by with_unfolding_all rfl) ?_)
    all_goals first
      | rfl
      | (exfalso; simp at h; omega)
      | (exfalso; simp at *; omega)
      | (exfalso; simp at h; exact hse h)
  rw [hse] at h2
  obtain ⟨hfs, hfz⟩ := (Fm.err_iff f).1 he
  obtain ⟨hss, hsz⟩ := err_zero hse
  have hff := ferr_full he
  have hsf := terr_full hse
  have h3 := rleastF_c 536870912 (by omega) _ f (Nat.le_refl _) (by omega) hfs
  have h4 := rleast_c 536870912 (by omega) _ s (Nat.le_refl _) (by omega) hss
  rw [← nearF_least] at h3
  rw [← near_least] at h4
  by_cases hn : f.near = true ∧ s.near = true
  case neg =>
    have hn' : f.near = false ∨ s.near = false := by
      cases h5 : f.near with
      | false => exact .inl rfl
      | true => cases h6 : s.near with
        | false => exact .inr rfl
        | true => exact absurd ⟨h5, h6⟩ hn
    have e : putFErr f at_ s = 1 := by simp only [putFErr]; rw [if_neg (by simp [he]), if_neg (by simp; omega), if_neg (by simp [hse]), if_pos hn']
    rw [e, if_neg (by decide)]
    cases h5 : f.near with
    | false =>
      rw [h5] at h3
      refine AC.mk Tryz.func60 rfl rfl rfl rfl rfl (Nat.le_of_ble_eq_true rfl) ?_
      repeat' (first | ((with_reducible refine D.nil ?_); refine AX.nilL ?_) | ((with_reducible refine D.load ?_); first | refine L.ldb U U U U U U ?_ | refine AX.sk U U ?_) | ((with_reducible refine D.move ?_); first | refine L.mv U U U ?_ | refine AX.sk U U ?_ | ((fail_if_success refine AX.wt U ?_); refine AX.gs U U (fun _ => trivial) (fun h => ?_) (fun h => ?_))) | ((with_reducible refine D.assign ?_); refine L.asg U U U ?_) | ((with_reducible refine D.bin ?_); first | refine L.bn U U U U U ?_ | refine AX.sk U U ?_) | ((with_reducible refine D.call ?_); first | refine L.c2 (h1) U U U U ?_ | refine L.c2 (h2) U U U U ?_ | refine L.c2 (h3) U U U U ?_ | refine AX.sk U U ?_) | ((with_reducible refine D.box ?_); refine L.bx U U U U ?_) | ((with_reducible refine D.alloc ?_); refine L.al U U U ?_) | ((with_reducible refine D.store ?_); refine L.st U U U U U U U U U ?_) | ((with_reducible refine D.not ?_); first | refine L.nt U U U ?_ | refine AX.sk U U ?_) | ((with_reducible refine D.pick ?_); refine L.pk U U U U ?_) | ((with_reducible refine D.ax ?_); refine L.bd U U U U U ?_) | ((with_reducible refine D.aw ?_); (fail_if_success with_reducible refine D.stopR (id := 5) ?_); (fail_if_success with_reducible refine D.stopS (id := 5) ?_); first | refine K.sq (AW.regL ?_) | refine K.sq (K.sq ?_) | refine AW.regL ?_ | refine AW.condT U ?_ | refine AW.condF U ?_ | refine AW.condS U (fun h => ?_) (fun h => ?_) | refine AW.skip ?_ | refine AW.ret ?_) | with_reducible refine K.tN ?_ | with_reducible refine K.tR ?_ | with_reducible refine K.r1 (by with_unfolding_all rfl) (by with_unfolding_all rfl) ?_)
      all_goals first
        | rfl
        | (exfalso; simp at h; omega)
        | (exfalso; simp at *; omega)
    | true =>
      have h6 : s.near = false := hn'.resolve_left (by simp [h5])
      rw [h5] at h3
      rw [h6] at h4
      refine AC.mk Tryz.func60 rfl rfl rfl rfl rfl (Nat.le_of_ble_eq_true rfl) ?_
      repeat' (first | ((with_reducible refine D.nil ?_); refine AX.nilL ?_) | ((with_reducible refine D.load ?_); refine L.ldb U U U U U U ?_) | ((with_reducible refine D.move ?_); first | refine L.mv U U U ?_ | refine AX.sk U U ?_ | ((fail_if_success refine AX.wt U ?_); refine AX.gs U U (fun _ => trivial) (fun h => ?_) (fun h => ?_))) | ((with_reducible refine D.assign ?_); refine L.asg U U U ?_) | ((with_reducible refine D.bin ?_); first | refine L.bn U U U U U ?_ | refine AX.sk U U ?_) | ((with_reducible refine D.call ?_); first | refine L.c2 (h1) U U U U ?_ | refine L.c2 (h2) U U U U ?_ | refine L.c2 (h3) U U U U ?_ | refine L.c2 (h4) U U U U ?_) | ((with_reducible refine D.box ?_); refine L.bx U U U U ?_) | ((with_reducible refine D.alloc ?_); refine L.al U U U ?_) | ((with_reducible refine D.store ?_); refine L.st U U U U U U U U U ?_) | ((with_reducible refine D.not ?_); refine L.nt U U U ?_) | ((with_reducible refine D.pick ?_); refine L.pk U U U U ?_) | ((with_reducible refine D.ax ?_); refine L.bd U U U U U ?_) | ((with_reducible refine D.aw ?_); (fail_if_success with_reducible refine D.stopR (id := 5) ?_); (fail_if_success with_reducible refine D.stopS (id := 5) ?_); first | refine K.sq (AW.regL ?_) | refine K.sq (K.sq ?_) | refine AW.regL ?_ | refine AW.condT U ?_ | refine AW.condF U ?_ | refine AW.condS U (fun h => ?_) (fun h => ?_) | refine AW.skip ?_ | refine AW.ret ?_) | with_reducible refine K.tN ?_ | with_reducible refine K.tR ?_ | with_reducible refine K.r1 (by with_unfolding_all rfl) (by with_unfolding_all rfl) ?_)
      all_goals first
        | rfl
        | (exfalso; simp at h; omega)
        | (exfalso; simp at *; omega)
  obtain ⟨hn1, hn2⟩ := hn
  rw [hn1] at h3
  rw [hn2] at h4
  have h5 := fcountR_c _ f (Nat.le_refl _) (by omega)
  have h6 := rtimesF_c _ f at_ (Nat.le_refl _) (by omega) (by omega) (by omega) hfs
  have h7 := countTm_c _ s (Nat.le_refl _) (by omega)
  have htl := timesF_le at_ f
  have hsp := s.size_pos
  have hsl := s.size_le_full
  have hfl := f.size_le_full
  have hm := mul_bd (timesF at_ f) (s.size - 1) (by omega) (by omega)
  have hm' : -9223372036854775808 ≤ (timesF at_ f : Int) * (s.size - 1) ∧ (timesF at_ f : Int) * (s.size - 1) ≤ 9223372036854775807 := by omega
  have ee : putFErr f at_ s = if (f.size : Int) + timesF at_ f * (s.size - 1) > 4096 then 4 else 0 := by
    simp only [putFErr, timesF]
    rw [if_neg (by simp [he]), if_neg (by simp; omega), if_neg (by simp [hse]), if_neg (by simp [hn1, hn2])]
    rfl
  have hput : f.put at_ s = f.re (fun b t => t.re (putG at_ s) b) 0 := fput_eq at_ s 0 f
  have h8 := rinF_c at_ s (by omega) hss (by omega) (fun p hp => ⟨s.vars_nonneg hss 0 p hp, by have := near_all hn2 p hp; omega⟩) _ f 0 (Nat.le_refl _) (by omega) (by omega) (by omega) hfs (fun p hp q hq => by have := nearF_lt he hn1 p hp q hq; have h9 := List.all_eq_true.1 hn1 p hp; have := near_all h9 q hq; omega)
  rw [← hput] at h8
  by_cases hz : (f.size : Int) + timesF at_ f * (s.size - 1) > 4096
  · rw [if_pos hz] at ee
    rw [ee, if_neg (by decide)]
    clear h8 hput
    refine AC.mk Tryz.func60 rfl rfl rfl rfl rfl (Nat.le_of_ble_eq_true rfl) ?_
    repeat' (first | ((with_reducible refine D.nil ?_); first | refine AX.nilL ?_ | refine AX.nilD (by kernel_rfl) ?_) | ((with_reducible refine D.load ?_); refine L.ldb U U U U U U ?_) | ((with_reducible refine D.move ?_); first | refine L.mv U U U ?_ | refine AX.sk U U ?_ | ((fail_if_success refine AX.wt U ?_); refine AX.gs U U (fun _ => trivial) (fun h => ?_) (fun h => ?_))) | ((with_reducible refine D.assign ?_); refine L.asg U U U ?_) | ((with_reducible refine D.bin ?_); first | refine L.ad U U U U (by omega) ?_ | refine L.sb U U U U (by omega) ?_ | refine L.ml U U U U (by first | omega | assumption) ?_ | refine L.bn U U U U U ?_ | refine AX.sk U U ?_) | ((with_reducible refine D.call ?_); first | refine L.c2 (h1) U U U U ?_ | refine L.c2 (h2) U U U U ?_ | refine L.c2 (h3) U U U U ?_ | refine L.c2 (h4) U U U U ?_ | refine L.c2 (h5) U U U U ?_ | refine L.c2 (h6) U U U U ?_ | refine L.c2 (h7) U U U U ?_) | ((with_reducible refine D.box ?_); refine L.bx U U U U ?_) | ((with_reducible refine D.alloc ?_); refine L.al U U U ?_) | ((with_reducible refine D.store ?_); refine L.st U U U U U U U U U ?_) | ((with_reducible refine D.not ?_); refine L.nt U U U ?_) | ((with_reducible refine D.pick ?_); refine L.pk U U U U ?_) | ((with_reducible refine D.ax ?_); refine L.bd U U U U U ?_) | ((with_reducible refine D.aw ?_); (fail_if_success with_reducible refine D.stopR (id := 5) ?_); (fail_if_success with_reducible refine D.stopS (id := 5) ?_); (fail_if_success with_reducible refine D.stopR (id := 13) ?_); (fail_if_success with_reducible refine D.stopS (id := 13) ?_); first | refine K.sq (AW.regL ?_) | refine K.sq (K.sq ?_) | refine AW.regL ?_ | refine AW.regD mixed (by kernel_rfl) ?_ | refine AW.condT U ?_ | refine AW.condF U ?_ | refine AW.condS U (fun h => ?_) (fun h => ?_) | refine AW.skip ?_ | refine AW.ret ?_) | with_reducible refine K.tN ?_ | with_reducible refine K.tR ?_ | with_reducible refine K.r1 (by with_unfolding_all rfl) (by with_unfolding_all rfl) ?_)
    all_goals first
      | rfl
      | (exfalso; simp at h; omega)
      | (exfalso; simp at *; omega)
  · rw [if_neg hz] at ee
    have h9 := copyFm_c _ (f.put at_ s) (Nat.le_refl _) (by have := putF_bd ee; omega)
    rw [ee, if_pos rfl]
    refine AC.mk Tryz.func60 rfl rfl rfl rfl rfl (Nat.le_of_ble_eq_true rfl) ?_
    repeat' (first | ((with_reducible refine D.nil ?_); first | refine AX.nilL ?_ | refine AX.nilD (by kernel_rfl) ?_) | ((with_reducible refine D.load ?_); refine L.ldb U U U U U U ?_) | ((with_reducible refine D.move ?_); first | refine L.mv U U U ?_ | refine AX.sk U U ?_ | ((fail_if_success refine AX.wt U ?_); refine AX.gs U U (fun _ => trivial) (fun h => ?_) (fun h => ?_))) | ((with_reducible refine D.assign ?_); refine L.asg U U U ?_) | ((with_reducible refine D.bin ?_); first | refine L.ad U U U U (by omega) ?_ | refine L.sb U U U U (by omega) ?_ | refine L.ml U U U U (by first | omega | assumption) ?_ | refine L.bn U U U U U ?_ | refine AX.sk U U ?_) | ((with_reducible refine D.call ?_); first | refine L.c2 (h1) U U U U ?_ | refine L.c2 (h2) U U U U ?_ | refine L.c2 (h3) U U U U ?_ | refine L.c2 (h4) U U U U ?_ | refine L.c2 (h5) U U U U ?_ | refine L.c2 (h6) U U U U ?_ | refine L.c2 (h7) U U U U ?_ | refine L.c2 (h8) U U U U ?_ | refine L.c2 (h9) U U U U ?_) | ((with_reducible refine D.box ?_); refine L.bx U U U U ?_) | ((with_reducible refine D.alloc ?_); refine L.al U U U ?_) | ((with_reducible refine D.store ?_); refine L.st U U U U U U U U U ?_) | ((with_reducible refine D.not ?_); refine L.nt U U U ?_) | ((with_reducible refine D.pick ?_); refine L.pk U U U U ?_) | ((with_reducible refine D.aw ?_); (fail_if_success with_reducible refine D.stopR (id := 5) ?_); (fail_if_success with_reducible refine D.stopS (id := 5) ?_); (fail_if_success with_reducible refine D.stopR (id := 12) ?_); (fail_if_success with_reducible refine D.stopS (id := 12) ?_); first | refine K.sq (AW.regL ?_) | refine K.sq (K.sq ?_) | refine AW.regL ?_ | refine AW.regD mixed (by kernel_rfl) ?_ | refine AW.condT U ?_ | refine AW.condF U ?_ | refine AW.condS U (fun h => ?_) (fun h => ?_) | refine AW.skip ?_ | refine AW.ret ?_) | with_reducible refine K.tN ?_ | with_reducible refine K.r1 (by with_unfolding_all rfl) (by with_unfolding_all rfl) ?_)
    all_goals first
      | rfl
      | (exfalso; simp at h; omega)
      | (exfalso; simp at *; omega)
end Go.Ab
namespace Go.Ab
open Go Go.Proofs
set_option maxRecDepth 100000
set_option maxHeartbeats 4000000
set_option linter.all false
theorem fill_c (p : Fm) (l : List Tm) (hp : p.full < 137438953472) (hlen : l.length < 1099511627776) (hl : ∀ t ∈ l, t.full < 137438953472) : PC E 10 [.agg p.view, .s .tm l] (.tup [.agg (fill p l).1.view, .i (fill p l).2]) := by
  have h1 := fcheck_c p (by omega)
  have h2 := ownFm_c p (by omega)
  refine AC.mk Tryz.func10 rfl rfl rfl rfl rfl (Nat.le_of_ble_eq_true rfl) ?_
  repeat' (first | ((with_reducible refine D.nil ?_); refine AX.nilL ?_) | ((with_reducible refine D.load ?_); refine L.ldb U U U U U U ?_) | ((with_reducible refine D.move ?_); refine L.mv U U U ?_) | ((with_reducible refine D.assign ?_); refine L.asg U U U ?_) | ((with_reducible refine D.bin ?_); refine L.bn U U U U U ?_) | ((with_reducible refine D.call ?_); first | refine L.lnt U U U U ?_ | refine L.c2 (h1) U U U U ?_ | refine L.c2 (h2) U U U U ?_) | ((with_reducible refine D.box ?_); refine L.bx U U U U ?_) | ((with_reducible refine D.alloc ?_); refine L.al U U U ?_) | ((with_reducible refine D.store ?_); refine L.st U U U U U U U U U ?_) | ((with_reducible refine D.ax ?_); refine L.bd U U U U U ?_) | ((with_reducible refine D.aw ?_); first | refine K.sq (AW.regL ?_) | refine K.sq (K.sq ?_) | refine AW.regL ?_ | refine AW.condS U (fun h => ?_) (fun h => ?_) | refine AW.skip ?_ | refine AW.ret ?_) | with_reducible refine K.tN ?_ | with_reducible refine K.tR ?_ | with_reducible refine K.r1 (by with_unfolding_all rfl) (by with_unfolding_all rfl) ?_)
  · have e : p.err ≠ 0 := by simpa using h
    have e2 : fill p l = (noFm, p.err) := by simp only [fill]; rw [if_pos e]
    rw [e2]
    simp [tupV, V.wk, V.wks, constV, Ty.view, Fm.view, noFm]
  · rename_i h0
    have e : ¬ p.err ≠ 0 := by simpa using h0
    have e1 : 16 < l.length := by simp at h; omega
    have e2 : fill p l = (noFm, 1) := by simp only [fill]; rw [if_neg e, if_pos e1]
    rw [e2]
    simp [tupV, V.wk, V.wks, constV, Ty.view, Fm.view, noFm]
  rename_i h0
  have e : ¬ p.err ≠ 0 := by simpa using h0
  have e0 : p.err = 0 := Classical.not_not.1 e
  have e1 : ¬ 16 < l.length := by simp at h; omega
  have e2 : fill p l = fillF l.length l 0 p := by simp only [fill]; rw [if_neg e, if_neg e1]
  have hpf := ferr_full e0
  refine AW.range l.length (fun m => (fillF l.length (l.take m) 0 p).2 = 0)
    (fun m => ([(1, .s .tm l), (4, .ptr 1 0), (7, .ptr 2 0), (24, .s .tm l), (25, .i l.length), (26, .i m)], ⟨3, [(0, .var p.view), (1, .var [.i 0, .i 0, .slice .nil (.t .ty []), .slice .nil (.t .tm []), .slice .nil (.t .fm [])]), (2, .var (fillF l.length (l.take m) 0 p).1.view)]⟩))
    (by omega) (fun m => rfl) (fun m => rfl) U U (Weak.mk [some 0, some 1, some 2] _ _ _ U U U U (by (repeat' (first | exact trivial | refine And.intro ?_ ?_ | refine ⟨_, U, _, U, ?_⟩ | exact VLe.refl _)); done) (by (repeat' (first | exact trivial | refine And.intro ?_ ?_ | refine ⟨_, U, _, U, _, U, ?_⟩ | exact VLe.refl _)); done)) ?_ ?_
  · intro m hm hP
    have hb := fillF_bd l.length (l.take m) 0 p (by omega)
    have hg := fillF_go l.length l[m] [] (l.take m) 0 p hP
    have hg2 := fillF_go l.length l[m] (l.drop (m + 1)) (l.take m) 0 p hP
    rw [← take_drop_at l m hm] at hg2
    have hml : ((0 : Int) + (l.take m).length) = m := by simp; omega
    rw [hml] at hg hg2
    rw [List.take_append_getElem hm] at hg
    simp only [fillF] at hg hg2
    have hc := substLift_c l[m] 0 (l.length - 1 - m) (by have := hl l[m] (List.getElem_mem hm); omega)
    by_cases hl0 : liftErr l[m] 0 (l.length - 1 - m) = 0
    · have hc2 := fput_c (fillF l.length (l.take m) 0 p).1 0 (l[m].re (liftG 0 (l.length - 1 - m)) 0) (by omega) (by
        have h3 : l[m].err = 0 := by
          by_cases h4 : l[m].err = 0
          · exact h4
          · simp only [liftErr] at hl0; rw [if_pos h4] at hl0; exact absurd hl0 h4
        rw [lift_full _ _ _ _ (err_zero h3).1]
        have := hl l[m] (List.getElem_mem hm)
        omega)
      rw [if_pos hl0] at hc
      rw [if_neg (by simpa using hl0)] at hg hg2
      by_cases hp0 : putFErr (fillF l.length (l.take m) 0 p).1 0 (l[m].re (liftG 0 (l.length - 1 - m)) 0) = 0
      · rw [if_pos hp0] at hc2
        rw [if_neg (by simpa using hp0)] at hg hg2
        rw [hl0] at hc
        rw [hp0] at hc2
        repeat' (first | ((with_reducible refine D.nil ?_); refine AX.nilL ?_) | ((with_reducible refine D.load ?_); first | refine L.ldb U U U U U U ?_ | refine L.lda U U U U U ?_) | ((with_reducible refine D.move ?_); refine L.mv U U U ?_) | ((with_reducible refine D.assign ?_); refine L.asg U U U ?_) | ((with_reducible refine D.bin ?_); first | refine L.sb U U U U (by omega) ?_ | refine L.bn U U U U U ?_) | ((with_reducible refine D.call ?_); first | refine L.lnt U U U U ?_ | refine L.c2 (hc) U U U U ?_ | refine L.c2 (hc2) U U U U ?_) | ((with_reducible refine D.extract ?_); refine L.ex U U U U ?_) | ((with_reducible refine D.alloc ?_); refine L.al U U U ?_) | ((with_reducible refine D.store ?_); refine L.st U U U U U U U U U ?_) | ((with_reducible refine D.indexAddr ?_); refine L.ixt _ U U U U U U U (by assumption) ?_) | ((with_reducible refine D.aw ?_); first | refine K.sq (AW.regL ?_) | refine K.sq (K.sq ?_) | refine AW.regL ?_ | refine AW.condF U ?_ | refine AW.skip ?_) | with_reducible refine K.tN ?_ | with_reducible refine K.bN ?_)
        exact ⟨rfl, by simp only [hg], (Weak.mk [some 0, some 1, some 2] _ _ _ U U U U (by (repeat' (first | exact trivial | refine And.intro ?_ ?_ | refine ⟨_, U, _, U, ?_⟩ | exact VLe.refl _)); done) (by (repeat' (first | exact trivial | refine And.intro ?_ ?_ | refine ⟨_, U, _, U, _, U, ?_⟩ | exact VLe.refl _ | exact VLe.of_eq (by simp [Sto.upd, hg]))); done))⟩
      · rw [if_neg hp0] at hc2
        rw [if_pos (by simpa using hp0)] at hg hg2
        rw [hl0] at hc
        rw [e2, hg2]
        repeat' (first | ((with_reducible refine D.nil ?_); refine AX.nilL ?_) | ((with_reducible refine D.load ?_); first | refine L.ldb U U U U U U ?_ | refine L.lda U U U U U ?_) | ((with_reducible refine D.move ?_); refine L.mv U U U ?_) | ((with_reducible refine D.assign ?_); refine L.asg U U U ?_) | ((with_reducible refine D.bin ?_); first | refine L.sb U U U U (by omega) ?_ | refine L.bn U U U U U ?_) | ((with_reducible refine D.call ?_); first | refine L.lnt U U U U ?_ | refine L.c2 (hc) U U U U ?_ | refine L.c2 (hc2) U U U U ?_) | ((with_reducible refine D.extract ?_); refine L.ex U U U U ?_) | ((with_reducible refine D.alloc ?_); refine L.al U U U ?_) | ((with_reducible refine D.store ?_); refine L.st U U U U U U U U U ?_) | ((with_reducible refine D.indexAddr ?_); refine L.ixt _ U U U U U U U (by assumption) ?_) | ((with_reducible refine D.ax ?_); refine L.bd U U U U U ?_) | ((with_reducible refine D.aw ?_); first | refine K.sq (AW.regL ?_) | refine K.sq (K.sq ?_) | refine AW.regL ?_ | refine AW.condF U ?_ | refine AW.condS U (fun h => ?_) (fun h => ?_) | refine AW.skip ?_ | refine AW.ret ?_) | with_reducible refine K.tN ?_ | with_reducible refine K.bN ?_ | with_reducible refine K.tR ?_ | with_reducible refine K.bR ?_ | with_reducible refine K.gR ?_ | with_reducible refine K.r1 (by with_unfolding_all rfl) (by with_unfolding_all rfl) ?_)
        · simp [tupV, V.wk, V.wks, constV, Ty.view, Fm.view, noFm]
        · exfalso; simp [hp0] at h
    · rw [if_neg hl0] at hc
      rw [if_pos (by simpa using hl0)] at hg hg2
      rw [e2, hg2]
      repeat' (first | ((with_reducible refine D.nil ?_); refine AX.nilL ?_) | ((with_reducible refine D.load ?_); first | refine L.ldb U U U U U U ?_ | refine L.lda U U U U U ?_) | ((with_reducible refine D.move ?_); refine L.mv U U U ?_) | ((with_reducible refine D.assign ?_); refine L.asg U U U ?_) | ((with_reducible refine D.bin ?_); first | refine L.sb U U U U (by omega) ?_ | refine L.bn U U U U U ?_) | ((with_reducible refine D.call ?_); first | refine L.lnt U U U U ?_ | refine L.c2 (hc) U U U U ?_) | ((with_reducible refine D.extract ?_); refine L.ex U U U U ?_) | ((with_reducible refine D.alloc ?_); refine L.al U U U ?_) | ((with_reducible refine D.store ?_); refine L.st U U U U U U U U U ?_) | ((with_reducible refine D.indexAddr ?_); refine L.ixt _ U U U U U U U (by assumption) ?_) | ((with_reducible refine D.ax ?_); refine L.bd U U U U U ?_) | ((with_reducible refine D.aw ?_); first | refine K.sq (AW.regL ?_) | refine K.sq (K.sq ?_) | refine AW.regL ?_ | refine AW.condS U (fun h => ?_) (fun h => ?_) | refine AW.skip ?_ | refine AW.ret ?_) | with_reducible refine K.tN ?_ | with_reducible refine K.tR ?_ | with_reducible refine K.bR ?_ | with_reducible refine K.gR ?_ | with_reducible refine K.r1 (by with_unfolding_all rfl) (by with_unfolding_all rfl) ?_)
      · simp [tupV, V.wk, V.wks, constV, Ty.view, Fm.view, noFm]
      · exfalso; simp [hl0] at h
  · intro hP
    rw [List.take_of_length_le (Nat.le_refl _)] at hP
    rw [List.take_of_length_le (Nat.le_refl _)]
    rw [e2, hP]
    repeat' (first | ((with_reducible refine D.nil ?_); refine AX.nilL ?_) | ((with_reducible refine D.load ?_); refine L.ldb U U U U U U ?_) | ((with_reducible refine D.assign ?_); refine L.asg U U U ?_) | ((with_reducible refine D.store ?_); refine L.st U U U U U U U U U ?_) | ((with_reducible refine D.aw ?_); first | refine K.sq (AW.regL ?_) | refine AW.ret ?_) | with_reducible refine K.tN ?_ | with_reducible refine K.r1 (by with_unfolding_all rfl) (by with_unfolding_all rfl) ?_)
    rfl
end Go.Ab
namespace Go.Ab
open Go Go.Proofs
set_option maxRecDepth 100000
set_option maxHeartbeats 4000000
set_option linter.all false
theorem sameAllTmD_c (a b : List Tm) (ha : (a.map Tm.full).sum < 1099511627776) : PC E 13 [.s .tm a, .s .tm b] (.bool (decide (a = b))) := by
  have hlen := lsum_len Tm.full Tm.full_pos a
  by_cases hl : a.length = b.length
  case neg =>
    have e : ¬ a = b := fun h => hl (by rw [h])
    rw [decide_eq_false e]
    refine AC.mk Tryz.func13 rfl rfl rfl rfl rfl (Nat.le_of_ble_eq_true rfl) ?_
    repeat' (first | ((with_reducible refine D.nil ?_); refine AX.nilL ?_) | ((with_reducible refine D.move ?_); refine L.mv U U U ?_) | ((with_reducible refine D.assign ?_); refine L.asg U U U ?_) | ((with_reducible refine D.bin ?_); refine L.bn U U U U U ?_) | ((with_reducible refine D.call ?_); refine L.lnt U U U U ?_) | ((with_reducible refine D.aw ?_); (fail_if_success with_reducible refine D.stopR (id := 3) ?_); (fail_if_success with_reducible refine D.stopS (id := 3) ?_); first | refine K.sq (AW.regL ?_) | refine K.sq (K.sq ?_) | refine AW.regL ?_ | refine AW.condS U (fun h => ?_) (fun h => ?_) | refine AW.skip ?_ | refine AW.ret ?_) | with_reducible refine K.tN ?_ | with_reducible refine K.tR ?_ | with_reducible refine K.r1 (by with_unfolding_all rfl) (by with_unfolding_all rfl) ?_)
    all_goals first
      | rfl
      | (exfalso; simp at h; omega)
  refine AC.mk Tryz.func13 rfl rfl rfl rfl rfl (Nat.le_of_ble_eq_true rfl) ?_
  repeat' (first | ((with_reducible refine D.nil ?_); refine AX.nilL ?_) | ((with_reducible refine D.move ?_); refine L.mv U U U ?_) | ((with_reducible refine D.assign ?_); refine L.asg U U U ?_) | ((with_reducible refine D.bin ?_); refine L.bn U U U U U ?_) | ((with_reducible refine D.call ?_); refine L.lnt U U U U ?_) | ((with_reducible refine D.aw ?_); first | refine K.sq (AW.regL ?_) | refine K.sq (K.sq ?_) | refine AW.regL ?_ | refine AW.condS U (fun h => ?_) (fun h => ?_) | refine AW.skip ?_ | refine AW.ret ?_) | with_reducible refine K.tN ?_ | with_reducible refine K.tR ?_ | with_reducible refine K.r1 (by with_unfolding_all rfl) (by with_unfolding_all rfl) ?_)
  · exfalso; simp at h; omega
  refine AW.range a.length (fun m => ∀ j (hj : j < a.length), j < m → a[j] = b[j]'(by omega)) (fun m => ([(0, .s .tm a), (1, .s .tm b), (11, .s .tm a), (12, .i a.length), (13, .i m)], ⟨0, []⟩))
    (by omega) (fun m => rfl) (fun m => rfl) U (fun j hj h => by omega) (Weak.mk [] _ _ _ U U U U (by (repeat' (first | exact trivial | refine And.intro ?_ ?_ | refine ⟨_, U, _, U, ?_⟩ | exact VLe.refl _)); done) (by (repeat' (first | exact trivial)); done)) ?_ ?_
  · intro m hm hP
    have hm' : m < b.length := by omega
    have hs2 := lsum_mem Tm.full (List.getElem_mem hm)
    have hc := sameTm_c _ a[m] b[m] (Nat.le_refl _) (by omega)
    repeat' (first | ((with_reducible refine D.nil ?_); first | refine AX.nilL ?_ | refine AX.nilD (by kernel_rfl) ?_) | ((with_reducible refine D.load ?_); refine L.lda U U U U U ?_) | ((with_reducible refine D.move ?_); refine L.mv U U U ?_) | ((with_reducible refine D.assign ?_); refine L.asg U U U ?_) | ((with_reducible refine D.call ?_); refine L.c2 (hc) U U U U ?_) | ((with_reducible refine D.indexAddr ?_); refine L.ixt _ U U U U U U U (by assumption) ?_) | ((with_reducible refine D.not ?_); refine L.nt U U U ?_) | ((with_reducible refine D.aw ?_); first | refine K.sq (AW.regL ?_) | refine K.sq (AW.regD mixed (by kernel_rfl) ?_) | refine AW.condS U (fun h => ?_) (fun h => ?_) | refine AW.skip ?_ | refine AW.ret ?_) | with_reducible refine K.tN ?_ | with_reducible refine K.bN ?_ | with_reducible refine K.tR ?_ | with_reducible refine K.bR ?_ | with_reducible refine K.gR ?_ | with_reducible refine K.r1 (by with_unfolding_all rfl) (by with_unfolding_all rfl) ?_)
    · have hx : ¬ a[m] = b[m] := by simpa using h
      have e : ¬ a = b := list_ne hm hm' hx
      rw [decide_eq_false e]; rfl
    · exact ⟨rfl, step2 hl hm hP (by simpa using h), (Weak.mk [] _ _ _ U U U U (by (repeat' (first | exact trivial | refine And.intro ?_ ?_ | refine ⟨_, U, _, U, ?_⟩ | exact VLe.refl _)); done) (by (repeat' (first | exact trivial)); done))⟩
  · intro hP
    rw [decide_eq_true (list_eq hl hP)]
    repeat' (first | ((with_reducible refine D.nil ?_); refine AX.nilL ?_) | ((with_reducible refine D.assign ?_); refine L.asg U U U ?_) | ((with_reducible refine D.aw ?_); first | refine K.sq (AW.regL ?_) | refine AW.ret ?_) | with_reducible refine K.tN ?_ | with_reducible refine K.r1 (by with_unfolding_all rfl) (by with_unfolding_all rfl) ?_)
    rfl
theorem fsameR_c : ∀ (n : Nat) (x y : Fm), x.full ≤ n → n < 1099511627776 → PC E 14 [.agg x.view, .agg y.view] (.bool (decide (x = y))) := by
  intro n
  induction n with
  | zero => intro x y h; have := x.full_pos; omega
  | succ n ih =>
  intro x y hsz hb
  have hsz' := x.full_eq
  have hlen := lsum_len Fm.full Fm.full_pos x.args
  have heq := Fm.eq_iff x y
  have hty := sameTy_c _ x.ty y.ty (Nat.le_refl _) (by omega)
  have hts := sameAllTmD_c x.terms y.terms (by omega)
  by_cases hall : x.kind = y.kind ∧ x.ty = y.ty ∧ x.terms = y.terms ∧ x.args.length = y.args.length
  case neg =>
    have e : ¬ x = y := fun h => hall (by rw [h]; exact ⟨rfl, rfl, rfl, rfl⟩)
    rw [decide_eq_false e]
    clear ih heq e hsz'
    refine AC.mk Tryz.func14 rfl rfl rfl rfl rfl (Nat.le_of_ble_eq_true rfl) ?_
    repeat' (first | ((with_reducible refine D.nil ?_); refine AX.nilL ?_) | ((with_reducible refine D.load ?_); first | refine L.ldb U U U U U U ?_ | refine AX.sk U U ?_) | ((with_reducible refine D.move ?_); refine L.mv U U U ?_) | ((with_reducible refine D.fieldAddr ?_); first | refine L.fab U U U U U ?_ | refine AX.sk U U ?_ | ((fail_if_success refine AX.wt U ?_); refine AX.gs U U (fun _ => trivial) (fun h => ?_) (fun h => ?_))) | ((with_reducible refine D.assign ?_); refine L.asg U U U ?_) | ((with_reducible refine D.bin ?_); first | refine L.bn U U U U U ?_ | refine AX.sk U U ?_) | ((with_reducible refine D.call ?_); first | refine L.lnt U U U U ?_ | refine L.c2 (hty) U U U U ?_ | refine L.c2 (hts) U U U U ?_ | refine AX.sk U U ?_) | ((with_reducible refine D.box ?_); refine L.bx U U U U ?_) | ((with_reducible refine D.not ?_); first | refine L.nt U U U ?_ | refine AX.sk U U ?_) | ((with_reducible refine D.pick ?_); refine L.pk U U U U ?_) | ((with_reducible refine D.aw ?_); (fail_if_success with_reducible refine D.stopR (id := 3) ?_); (fail_if_success with_reducible refine D.stopS (id := 3) ?_); first | refine K.sq (AW.regL ?_) | refine K.sq (K.sq ?_) | refine AW.regL ?_ | refine AW.condT U ?_ | refine AW.condS U (fun h => ?_) (fun h => ?_) | refine AW.skip ?_ | refine AW.ret ?_) | with_reducible refine K.tN ?_ | with_reducible refine K.tR ?_ | with_reducible refine K.r1 (by with_unfolding_all rfl) (by with_unfolding_all rfl) ?_)
    all_goals first
      | rfl
      | (exfalso; simp at *; exact hall (by assumption) (by assumption) (by assumption) (by omega))
  obtain ⟨h1, h2, h3, h4⟩ := hall
  rw [decide_eq_true h2] at hty
  rw [decide_eq_true h3] at hts
  refine AC.mk Tryz.func14 rfl rfl rfl rfl rfl (Nat.le_of_ble_eq_true rfl) ?_
  repeat' (first | ((with_reducible refine D.nil ?_); refine AX.nilL ?_) | ((with_reducible refine D.load ?_); first | refine L.ldb U U U U U U ?_ | refine AX.sk U U ?_) | ((with_reducible refine D.move ?_); refine L.mv U U U ?_) | ((with_reducible refine D.fieldAddr ?_); first | refine L.fab U U U U U ?_ | refine AX.sk U U ?_ | ((fail_if_success refine AX.wt U ?_); refine AX.gs U U (fun _ => trivial) (fun h => ?_) (fun h => ?_))) | ((with_reducible refine D.assign ?_); refine L.asg U U U ?_) | ((with_reducible refine D.bin ?_); first | refine L.bn U U U U U ?_ | refine AX.sk U U ?_) | ((with_reducible refine D.call ?_); first | refine L.lnt U U U U ?_ | refine L.c2 (hty) U U U U ?_ | refine L.c2 (hts) U U U U ?_ | refine AX.sk U U ?_) | ((with_reducible refine D.box ?_); refine L.bx U U U U ?_) | ((with_reducible refine D.not ?_); first | refine L.nt U U U ?_ | refine AX.sk U U ?_) | ((with_reducible refine D.pick ?_); refine L.pk U U U U ?_) | ((with_reducible refine D.aw ?_); first | refine K.sq (AW.regL ?_) | refine K.sq (K.sq ?_) | refine AW.regL ?_ | refine AW.condT U ?_ | refine AW.condS U (fun h => ?_) (fun h => ?_) | refine AW.skip ?_ | refine AW.ret ?_) | with_reducible refine K.tN ?_ | with_reducible refine K.tR ?_ | with_reducible refine K.r1 (by with_unfolding_all rfl) (by with_unfolding_all rfl) ?_)
  all_goals first
    | (exfalso; simp at h; omega)
    | (exfalso; simp at h; exact h h1)
    | skip
  refine AW.range x.args.length (fun m => ∀ j (hj : j < x.args.length), j < m → x.args[j] = y.args[j]'(by omega)) (fun m => ([(2, .ptr 0 0), (3, .ptr 1 0), (37, .s .fm x.args), (38, .i x.args.length), (39, .i m)], ⟨2, [(0, .var x.view), (1, .var y.view)]⟩))
    (by omega) (fun m => rfl) (fun m => rfl) U (fun j hj h => by omega) (Weak.mk [some 0, some 1] _ _ _ U U U U (by (repeat' (first | exact trivial | refine And.intro ?_ ?_ | refine ⟨_, U, _, U, ?_⟩ | exact VLe.refl _)); done) (by (repeat' (first | exact trivial | refine And.intro ?_ ?_ | refine ⟨_, U, _, U, _, U, ?_⟩ | exact VLe.refl _)); done)) ?_ ?_
  · intro m hm hP
    have hm' : m < y.args.length := by omega
    have hs2 := lsum_mem Fm.full (List.getElem_mem hm)
    have hc := ih x.args[m] y.args[m] (by omega) (by omega)
    repeat' (first | ((with_reducible refine D.nil ?_); first | refine AX.nilL ?_ | refine AX.nilD (by kernel_rfl) ?_) | ((with_reducible refine D.load ?_); first | refine L.ldb U U U U U U ?_ | refine L.lda U U U U U ?_) | ((with_reducible refine D.move ?_); refine L.mv U U U ?_) | ((with_reducible refine D.fieldAddr ?_); refine L.fab U U U U U ?_) | ((with_reducible refine D.assign ?_); refine L.asg U U U ?_) | ((with_reducible refine D.call ?_); refine L.c2 (hc) U U U U ?_) | ((with_reducible refine D.indexAddr ?_); refine L.ixt _ U U U U U U U (by assumption) ?_) | ((with_reducible refine D.not ?_); refine L.nt U U U ?_) | ((with_reducible refine D.aw ?_); first | refine K.sq (AW.regL ?_) | refine K.sq (AW.regD mixed (by kernel_rfl) ?_) | refine AW.condS U (fun h => ?_) (fun h => ?_) | refine AW.skip ?_ | refine AW.ret ?_) | with_reducible refine K.tN ?_ | with_reducible refine K.bN ?_ | with_reducible refine K.tR ?_ | with_reducible refine K.bR ?_ | with_reducible refine K.gR ?_ | with_reducible refine K.r1 (by with_unfolding_all rfl) (by with_unfolding_all rfl) ?_)
    · have hx : ¬ x.args[m] = y.args[m] := by simpa using h
      have e : ¬ x = y := by rw [heq]; exact fun hc => list_ne hm hm' hx hc.2.2.2
      rw [decide_eq_false e]; rfl
    · exact ⟨rfl, step2 h4 hm hP (by simpa using h), (Weak.mk [some 0, some 1] _ _ _ U U U U (by (repeat' (first | exact trivial | refine And.intro ?_ ?_ | refine ⟨_, U, _, U, ?_⟩ | exact VLe.refl _)); done) (by (repeat' (first | exact trivial | refine And.intro ?_ ?_ | refine ⟨_, U, _, U, _, U, ?_⟩ | exact VLe.refl _)); done))⟩
  · intro hP
    have e : x = y := heq.2 ⟨h1, h2, h3, list_eq h4 hP⟩
    rw [decide_eq_true e]
    repeat' (first | ((with_reducible refine D.nil ?_); refine AX.nilL ?_) | ((with_reducible refine D.assign ?_); refine L.asg U U U ?_) | ((with_reducible refine D.aw ?_); first | refine K.sq (AW.regL ?_) | refine AW.ret ?_) | with_reducible refine K.tN ?_ | with_reducible refine K.r1 (by with_unfolding_all rfl) (by with_unfolding_all rfl) ?_)
    rfl
theorem fillR_c (p : Fm) (l : List Tm) (hp : p.full < 274877906944) (hl : l.length ≤ 16 → ∀ t ∈ l, t.full < 137438953472) : PC E 18 [.agg p.view, .s .tm l] (.tup [.agg (fill p l).1.view, .i (fill p l).2]) := by
  have h1 := fcheckR_c p (by omega)
  have h2 := copyFm_c _ p (Nat.le_refl _) (by omega)
  by_cases he : p.err = 0
  case neg =>
    have e2 : fill p l = (noFm, p.err) := by simp only [fill]; rw [if_pos he]
    rw [e2]
    refine AC.mk Tryz.func18 rfl rfl rfl rfl rfl (Nat.le_of_ble_eq_true rfl) ?_
    repeat' (first | ((with_reducible refine D.nil ?_); refine AX.nilL ?_) | ((with_reducible refine D.load ?_); refine L.ldb U U U U U U ?_) | ((with_reducible refine D.move ?_); refine L.mv U U U ?_) | ((with_reducible refine D.assign ?_); refine L.asg U U U ?_) | ((with_reducible refine D.bin ?_); refine L.bn U U U U U ?_) | ((with_reducible refine D.call ?_); refine L.c2 (h1) U U U U ?_) | ((with_reducible refine D.box ?_); refine L.bx U U U U ?_) | ((with_reducible refine D.alloc ?_); refine L.al U U U ?_) | ((with_reducible refine D.store ?_); refine L.st U U U U U U U U U ?_) | ((with_reducible refine D.ax ?_); refine L.bd U U U U U ?_) | ((with_reducible refine D.aw ?_); (fail_if_success with_reducible refine D.stopR (id := 4) ?_); (fail_if_success with_reducible refine D.stopS (id := 4) ?_); first | refine K.sq (AW.regL ?_) | refine K.sq (K.sq ?_) | refine AW.regL ?_ | refine AW.condS U (fun h => ?_) (fun h => ?_) | refine AW.skip ?_ | refine AW.ret ?_) | with_reducible refine K.tN ?_ | with_reducible refine K.tR ?_ | with_reducible refine K.r1 (by with_unfolding_all rfl) (by with_unfolding_all rfl) ?_)
    all_goals first
      | rfl
      | (exfalso; simp at h; exact he h)
  rw [he] at h1
  by_cases hl16 : 16 < l.length
  · have e2 : fill p l = (noFm, 1) := by simp only [fill]; rw [if_neg (by simp [he]), if_pos hl16]
    rw [e2]
    refine AC.mk Tryz.func18 rfl rfl rfl rfl rfl (Nat.le_of_ble_eq_true rfl) ?_
    repeat' (first | ((with_reducible refine D.nil ?_); refine AX.nilL ?_) | ((with_reducible refine D.load ?_); refine L.ldb U U U U U U ?_) | ((with_reducible refine D.move ?_); refine L.mv U U U ?_) | ((with_reducible refine D.assign ?_); refine L.asg U U U ?_) | ((with_reducible refine D.bin ?_); refine L.bn U U U U U ?_) | ((with_reducible refine D.call ?_); first | refine L.lnt U U U U ?_ | refine L.c2 (h1) U U U U ?_) | ((with_reducible refine D.box ?_); refine L.bx U U U U ?_) | ((with_reducible refine D.alloc ?_); refine L.al U U U ?_) | ((with_reducible refine D.store ?_); refine L.st U U U U U U U U U ?_) | ((with_reducible refine D.ax ?_); refine L.bd U U U U U ?_) | ((with_reducible refine D.aw ?_); (fail_if_success with_reducible refine D.stopR (id := 6) ?_); (fail_if_success with_reducible refine D.stopS (id := 6) ?_); first | refine K.sq (AW.regL ?_) | refine K.sq (K.sq ?_) | refine AW.regL ?_ | refine AW.condF U ?_ | refine AW.condS U (fun h => ?_) (fun h => ?_) | refine AW.skip ?_ | refine AW.ret ?_) | with_reducible refine K.tN ?_ | with_reducible refine K.tR ?_ | with_reducible refine K.r1 (by with_unfolding_all rfl) (by with_unfolding_all rfl) ?_)
    all_goals first
      | rfl
      | (exfalso; simp at h; omega)
  have hl := hl (by omega)
  have e2 : fill p l = fillF l.length l 0 p := by simp only [fill]; rw [if_neg (by simp [he]), if_neg hl16]
  have hpf := ferr_full he
  refine AC.mk Tryz.func18 rfl rfl rfl rfl rfl (Nat.le_of_ble_eq_true rfl) ?_
  repeat' (first | ((with_reducible refine D.nil ?_); refine AX.nilL ?_) | ((with_reducible refine D.load ?_); refine L.ldb U U U U U U ?_) | ((with_reducible refine D.move ?_); refine L.mv U U U ?_) | ((with_reducible refine D.assign ?_); refine L.asg U U U ?_) | ((with_reducible refine D.bin ?_); refine L.bn U U U U U ?_) | ((with_reducible refine D.call ?_); first | refine L.lnt U U U U ?_ | refine L.c2 (h1) U U U U ?_ | refine L.c2 (h2) U U U U ?_) | ((with_reducible refine D.box ?_); refine L.bx U U U U ?_) | ((with_reducible refine D.alloc ?_); refine L.al U U U ?_) | ((with_reducible refine D.store ?_); refine L.st U U U U U U U U U ?_) | ((with_reducible refine D.aw ?_); (fail_if_success with_reducible refine D.stopR (id := 5) ?_); (fail_if_success with_reducible refine D.stopS (id := 5) ?_); first | refine K.sq (AW.regL ?_) | refine K.sq (K.sq ?_) | refine AW.regL ?_ | refine AW.condF U ?_ | refine AW.condS U (fun h => ?_) (fun h => ?_) | refine AW.skip ?_) | with_reducible refine K.tN ?_)
  all_goals first
    | (exfalso; simp at h; omega)
    | skip
  refine AW.range l.length (fun m => (fillF l.length (l.take m) 0 p).2 = 0)
    (fun m => ([(1, .s .tm l), (2, .ptr 0 0), (4, .ptr 1 0), (23, .s .tm l), (24, .i l.length), (25, .i m)], ⟨2, [(0, .var (fillF l.length (l.take m) 0 p).1.view), (1, .var [.i 0, .i 0, .slice .nil (.t .ty []), .slice .nil (.t .tm []), .slice .nil (.t .fm [])])]⟩))
    (by omega) (fun m => rfl) (fun m => rfl) U U (Weak.mk [some 0, some 1] _ _ _ U U U U (by (repeat' (first | exact trivial | refine And.intro ?_ ?_ | refine ⟨_, U, _, U, ?_⟩ | exact VLe.refl _)); done) (by (repeat' (first | exact trivial | refine And.intro ?_ ?_ | refine ⟨_, U, _, U, _, U, ?_⟩ | exact VLe.refl _)); done)) ?_ ?_
  · intro m hm hP
    have hb := fillF_bd l.length (l.take m) 0 p (by omega)
    have hg := fillF_go l.length l[m] [] (l.take m) 0 p hP
    have hg2 := fillF_go l.length l[m] (l.drop (m + 1)) (l.take m) 0 p hP
    rw [← take_drop_at l m hm] at hg2
    have hml : ((0 : Int) + (l.take m).length) = m := by simp; omega
    rw [hml] at hg hg2
    rw [List.take_append_getElem hm] at hg
    simp only [fillF] at hg hg2
    have hc := rlift_c l[m] 0 (l.length - 1 - m) (by have := hl l[m] (List.getElem_mem hm); omega)
    by_cases hl0 : liftErr l[m] 0 (l.length - 1 - m) = 0
    · have hc2 := fputR_c (fillF l.length (l.take m) 0 p).1 0 (l[m].re (liftG 0 (l.length - 1 - m)) 0) (by omega) (by
        have h3 : l[m].err = 0 := by
          by_cases h4 : l[m].err = 0
          · exact h4
          · simp only [liftErr] at hl0; rw [if_pos h4] at hl0; exact absurd hl0 h4
        rw [lift_full _ _ _ _ (err_zero h3).1]
        have := hl l[m] (List.getElem_mem hm)
        omega)
      rw [if_pos hl0] at hc
      rw [if_neg (by simpa using hl0)] at hg hg2
      by_cases hp0 : putFErr (fillF l.length (l.take m) 0 p).1 0 (l[m].re (liftG 0 (l.length - 1 - m)) 0) = 0
      · rw [if_pos hp0] at hc2
        rw [if_neg (by simpa using hp0)] at hg hg2
        rw [hl0] at hc
        rw [hp0] at hc2
        repeat' (first | ((with_reducible refine D.nil ?_); refine AX.nilL ?_) | ((with_reducible refine D.load ?_); first | refine L.ldb U U U U U U ?_ | refine L.lda U U U U U ?_) | ((with_reducible refine D.move ?_); refine L.mv U U U ?_) | ((with_reducible refine D.assign ?_); refine L.asg U U U ?_) | ((with_reducible refine D.bin ?_); first | refine L.sb U U U U (by omega) ?_ | refine L.bn U U U U U ?_) | ((with_reducible refine D.call ?_); first | refine L.lnt U U U U ?_ | refine L.c2 (hc) U U U U ?_ | refine L.c2 (hc2) U U U U ?_) | ((with_reducible refine D.extract ?_); refine L.ex U U U U ?_) | ((with_reducible refine D.alloc ?_); refine L.al U U U ?_) | ((with_reducible refine D.store ?_); refine L.st U U U U U U U U U ?_) | ((with_reducible refine D.indexAddr ?_); refine L.ixt _ U U U U U U U (by assumption) ?_) | ((with_reducible refine D.aw ?_); first | refine K.sq (AW.regL ?_) | refine K.sq (K.sq ?_) | refine AW.regL ?_ | refine AW.condF U ?_ | refine AW.skip ?_) | with_reducible refine K.tN ?_ | with_reducible refine K.bN ?_)
        exact ⟨rfl, by simp only [hg], (Weak.mk [some 0, some 1] _ _ _ U U U U (by (repeat' (first | exact trivial | refine And.intro ?_ ?_ | refine ⟨_, U, _, U, ?_⟩ | exact VLe.refl _)); done) (by (repeat' (first | exact trivial | refine And.intro ?_ ?_ | refine ⟨_, U, _, U, _, U, ?_⟩ | exact VLe.refl _ | exact VLe.of_eq (by simp [Sto.upd, hg]))); done))⟩
      · rw [if_neg hp0] at hc2
        rw [if_pos (by simpa using hp0)] at hg hg2
        rw [hl0] at hc
        rw [e2, hg2]
        repeat' (first | ((with_reducible refine D.nil ?_); refine AX.nilL ?_) | ((with_reducible refine D.load ?_); first | refine L.ldb U U U U U U ?_ | refine L.lda U U U U U ?_) | ((with_reducible refine D.move ?_); refine L.mv U U U ?_) | ((with_reducible refine D.assign ?_); refine L.asg U U U ?_) | ((with_reducible refine D.bin ?_); first | refine L.sb U U U U (by omega) ?_ | refine L.bn U U U U U ?_) | ((with_reducible refine D.call ?_); first | refine L.lnt U U U U ?_ | refine L.c2 (hc) U U U U ?_ | refine L.c2 (hc2) U U U U ?_) | ((with_reducible refine D.extract ?_); refine L.ex U U U U ?_) | ((with_reducible refine D.alloc ?_); refine L.al U U U ?_) | ((with_reducible refine D.store ?_); refine L.st U U U U U U U U U ?_) | ((with_reducible refine D.indexAddr ?_); refine L.ixt _ U U U U U U U (by assumption) ?_) | ((with_reducible refine D.ax ?_); refine L.bd U U U U U ?_) | ((with_reducible refine D.aw ?_); first | refine K.sq (AW.regL ?_) | refine K.sq (K.sq ?_) | refine AW.regL ?_ | refine AW.condF U ?_ | refine AW.condS U (fun h => ?_) (fun h => ?_) | refine AW.skip ?_ | refine AW.ret ?_) | with_reducible refine K.tN ?_ | with_reducible refine K.bN ?_ | with_reducible refine K.tR ?_ | with_reducible refine K.bR ?_ | with_reducible refine K.gR ?_ | with_reducible refine K.r1 (by with_unfolding_all rfl) (by with_unfolding_all rfl) ?_)
        · simp [tupV, V.wk, V.wks, constV, Ty.view, Fm.view, noFm]
        · exfalso; simp [hp0] at h
    · rw [if_neg hl0] at hc
      rw [if_pos (by simpa using hl0)] at hg hg2
      rw [e2, hg2]
      repeat' (first | ((with_reducible refine D.nil ?_); refine AX.nilL ?_) | ((with_reducible refine D.load ?_); first | refine L.ldb U U U U U U ?_ | refine L.lda U U U U U ?_) | ((with_reducible refine D.move ?_); refine L.mv U U U ?_) | ((with_reducible refine D.assign ?_); refine L.asg U U U ?_) | ((with_reducible refine D.bin ?_); first | refine L.sb U U U U (by omega) ?_ | refine L.bn U U U U U ?_) | ((with_reducible refine D.call ?_); first | refine L.lnt U U U U ?_ | refine L.c2 (hc) U U U U ?_) | ((with_reducible refine D.extract ?_); refine L.ex U U U U ?_) | ((with_reducible refine D.alloc ?_); refine L.al U U U ?_) | ((with_reducible refine D.store ?_); refine L.st U U U U U U U U U ?_) | ((with_reducible refine D.indexAddr ?_); refine L.ixt _ U U U U U U U (by assumption) ?_) | ((with_reducible refine D.ax ?_); refine L.bd U U U U U ?_) | ((with_reducible refine D.aw ?_); (fail_if_success with_reducible refine D.stopR (id := 13) ?_); (fail_if_success with_reducible refine D.stopS (id := 13) ?_); first | refine K.sq (AW.regL ?_) | refine K.sq (K.sq ?_) | refine AW.regL ?_ | refine AW.condS U (fun h => ?_) (fun h => ?_) | refine AW.skip ?_ | refine AW.ret ?_) | with_reducible refine K.tN ?_ | with_reducible refine K.tR ?_ | with_reducible refine K.bR ?_ | with_reducible refine K.gR ?_ | with_reducible refine K.r1 (by with_unfolding_all rfl) (by with_unfolding_all rfl) ?_)
      · simp [tupV, V.wk, V.wks, constV, Ty.view, Fm.view, noFm]
      · exfalso; simp [hl0] at h
  · intro hP
    rw [List.take_of_length_le (Nat.le_refl _)] at hP
    rw [List.take_of_length_le (Nat.le_refl _)]
    rw [e2, hP]
    repeat' (first | ((with_reducible refine D.nil ?_); refine AX.nilL ?_) | ((with_reducible refine D.load ?_); refine L.ldb U U U U U U ?_) | ((with_reducible refine D.assign ?_); refine L.asg U U U ?_) | ((with_reducible refine D.store ?_); refine L.st U U U U U U U U U ?_) | ((with_reducible refine D.aw ?_); first | refine K.sq (AW.regL ?_) | refine AW.ret ?_) | with_reducible refine K.tN ?_ | with_reducible refine K.r1 (by with_unfolding_all rfl) (by with_unfolding_all rfl) ?_)
    rfl
end Go.Ab
namespace Go.Ab
open Go Go.Proofs
set_option maxRecDepth 100000
set_option maxHeartbeats 4000000
set_option linter.all false
theorem keyAt_look : ∀ {m : FMap} {k : Int}, (keyAt k (m.map (·.1)) = none → lookT m k = none) ∧ ∀ i, keyAt k (m.map (·.1)) = some i → lookT m k = (m.map (·.2))[i]?
  | [], k => ⟨fun _ => rfl, fun i h => by cases h⟩
  | p :: m, k => by
    obtain ⟨h1, h2⟩ := keyAt_look (m := m) (k := k)
    simp only [List.map_cons, keyAt, lookT]
    by_cases hp : p.1 = k
    · rw [if_pos hp, if_pos hp]
      exact ⟨fun h => by (exact absurd h (by simp)), fun i h => by cases h; rfl⟩
    · rw [if_neg hp, if_neg hp]
      refine ⟨fun h => h1 (by simpa using h), fun i h => ?_⟩
      rw [Option.map_eq_some_iff] at h
      obtain ⟨j, h3, rfl⟩ := h
      rw [h2 j h3, List.getElem?_cons_succ]
theorem outs_succ (m : FMap) (n : Nat) : outs m (n + 1) = outs m n ++ [(lookT m n).getD zeroT] := by simp [outs, List.range_succ]
theorem outs_len (m : FMap) (n : Nat) : (outs m n).length = n := by simp [outs]
theorem fill_bd {p : Fm} {l : List Tm} : (fill p l).1.full ≤ 1200000000 := by
  simp only [fill]
  split
  · simp [noFm, Fm.full, Fm.fulls, Ty.size, Ty.sizes]
  · split
    · simp [noFm, Fm.full, Fm.fulls, Ty.size, Ty.sizes]
    · rename_i h1 _
      have := ferr_full (Classical.not_not.1 h1)
      exact fillF_bd _ _ _ _ (by omega)
theorem match_c (p f : Fm) (ho : Int) (hp : p.full < 68719476736) (hf : f.full < 68719476736) : PC E 11 [.agg p.view, .i ho, .agg f.view] (.tup [.s .tm (matchF p ho f).1, .i (matchF p ho f).2]) := by
  have h1 := fcheck_c p (by omega)
  have h2 := fcheck_c f (by omega)
  have h3 := enear_c p (by omega)
  have h4 := enear_c f (by omega)
  by_cases e1 : p.err = 0
  rotate_left
  · have e : matchF p ho f = ([], p.err) := by simp only [matchF]; rw [if_pos e1]
    rw [e]
    refine AC.mk Tryz.func11 rfl rfl rfl rfl rfl (Nat.le_of_ble_eq_true rfl) ?_
    repeat' (first | ((with_reducible refine D.nil ?_); refine AX.nilL ?_) | ((with_reducible refine D.load ?_); refine L.ldb U U U U U U ?_) | ((with_reducible refine D.move ?_); refine L.mv U U U ?_) | ((with_reducible refine D.assign ?_); refine L.asg U U U ?_) | ((with_reducible refine D.bin ?_); refine L.bn U U U U U ?_) | ((with_reducible refine D.call ?_); refine L.c2 (h1) U U U U ?_) | ((with_reducible refine D.box ?_); refine L.bx U U U U ?_) | ((with_reducible refine D.aw ?_); (fail_if_success with_reducible refine D.stopR (id := 4) ?_); (fail_if_success with_reducible refine D.stopS (id := 4) ?_); first | refine K.sq (AW.regL ?_) | refine K.sq (K.sq ?_) | refine AW.regL ?_ | refine AW.condS U (fun h => ?_) (fun h => ?_) | refine AW.skip ?_ | refine AW.ret ?_) | with_reducible refine K.tN ?_ | with_reducible refine K.tR ?_ | with_reducible refine K.r1 (by with_unfolding_all rfl) (by with_unfolding_all rfl) ?_)
    · rfl
    · exfalso; simp [e1] at h
  by_cases e2 : f.err = 0
  rotate_left
  · have e : matchF p ho f = ([], f.err) := by simp only [matchF]; rw [if_neg (by simpa using e1), if_pos e2]
    rw [e1] at h1
    rw [e]
    refine AC.mk Tryz.func11 rfl rfl rfl rfl rfl (Nat.le_of_ble_eq_true rfl) ?_
    repeat' (first | ((with_reducible refine D.nil ?_); refine AX.nilL ?_) | ((with_reducible refine D.load ?_); refine L.ldb U U U U U U ?_) | ((with_reducible refine D.move ?_); refine L.mv U U U ?_) | ((with_reducible refine D.assign ?_); refine L.asg U U U ?_) | ((with_reducible refine D.bin ?_); refine L.bn U U U U U ?_) | ((with_reducible refine D.call ?_); first | refine L.c2 (h1) U U U U ?_ | refine L.c2 (h2) U U U U ?_) | ((with_reducible refine D.box ?_); refine L.bx U U U U ?_) | ((with_reducible refine D.aw ?_); (fail_if_success with_reducible refine D.stopR (id := 7) ?_); (fail_if_success with_reducible refine D.stopS (id := 7) ?_); first | refine K.sq (AW.regL ?_) | refine K.sq (K.sq ?_) | refine AW.regL ?_ | refine AW.condF U ?_ | refine AW.condS U (fun h => ?_) (fun h => ?_) | refine AW.skip ?_ | refine AW.ret ?_) | with_reducible refine K.tN ?_ | with_reducible refine K.tR ?_ | with_reducible refine K.r1 (by with_unfolding_all rfl) (by with_unfolding_all rfl) ?_)
    · rfl
    · exfalso; simp [e2] at h
  rw [e1] at h1
  rw [e2] at h2
  have hpf := ferr_full e1
  have hff := ferr_full e2
  have hps := ((Fm.err_iff p).1 e1).1
  have hfs := ((Fm.err_iff f).1 e2).1
  by_cases e3 : 0 ≤ ho ∧ ho ≤ 16 ∧ p.nearE = true ∧ f.nearE = true
  rotate_left
  · have e : matchF p ho f = ([], 1) := by
      simp only [matchF]; rw [if_neg (by simpa using e1), if_neg (by simpa using e2), if_pos]
      cases hn1 : p.nearE with
      | false => exact .inr (.inl rfl)
      | true =>
        cases hn2 : f.nearE with
        | false => exact .inr (.inr rfl)
        | true => exact .inl fun hc => e3 ⟨hc.1, hc.2, hn1, hn2⟩
    rw [e]
    refine AC.mk Tryz.func11 rfl rfl rfl rfl rfl (Nat.le_of_ble_eq_true rfl) ?_
    repeat' (first | ((with_reducible refine D.nil ?_); refine AX.nilL ?_) | ((with_reducible refine D.load ?_); first | refine L.ldb U U U U U U ?_ | refine AX.sk U U ?_ | ((fail_if_success refine AX.wt U ?_); refine AX.gs U U (fun _ => trivial) (fun h => ?_) (fun h => ?_))) | ((with_reducible refine D.move ?_); first | refine L.mv U U U ?_ | refine AX.sk U U ?_ | ((fail_if_success refine AX.wt U ?_); refine AX.gs U U (fun _ => trivial) (fun h => ?_) (fun h => ?_))) | ((with_reducible refine D.assign ?_); refine L.asg U U U ?_) | ((with_reducible refine D.bin ?_); first | refine L.bn U U U U U ?_ | refine AX.sk U U ?_) | ((with_reducible refine D.call ?_); first | refine L.c2 (h1) U U U U ?_ | refine L.c2 (h2) U U U U ?_ | refine L.c2 (h3) U U U U ?_ | refine L.c2 (h4) U U U U ?_ | refine AX.sk U U ?_) | ((with_reducible refine D.box ?_); refine L.bx U U U U ?_) | ((with_reducible refine D.not ?_); first | refine L.nt U U U ?_ | refine AX.sk U U ?_) | ((with_reducible refine D.pick ?_); refine L.pk U U U U ?_) | ((with_reducible refine D.aw ?_); (fail_if_success with_reducible refine D.stopR (id := 9) ?_); (fail_if_success with_reducible refine D.stopS (id := 9) ?_); first | refine K.sq (AW.regL ?_) | refine K.sq (K.sq ?_) | refine AW.regL ?_ | refine AW.condT U ?_ | refine AW.condF U ?_ | refine AW.condS U (fun h => ?_) (fun h => ?_) | refine AW.skip ?_ | refine AW.ret ?_) | with_reducible refine K.tN ?_ | with_reducible refine K.tR ?_ | with_reducible refine K.r1 (by with_unfolding_all rfl) (by with_unfolding_all rfl) ?_)
    all_goals first
      | rfl
      | (exfalso; apply e3; simp at *; omega)
      | (exfalso; apply e3; simp_all; done)
      | (exfalso; apply e3; simp_all; omega)
  obtain ⟨e3, e4, e5, e6⟩ := e3
  rw [e5] at h3
  rw [e6] at h4
  have h5 := formM_c ho (by omega) _ p f [] 0 (Nat.le_refl _) (by omega) (by omega) (by omega) hps hfs hf e5 e6
  simp only [List.map_nil] at h5
  have hob := outs_bd (p := p) (h := ho) e2 e6
  have em : matchF p ho f = if (mF ho 0 p f []).1 = false then ([], 11)
      else if (fill p (outs (mF ho 0 p f []).2 ho.toNat)).2 ≠ 0 ∨ (fill p (outs (mF ho 0 p f []).2 ho.toNat)).1 ≠ f then ([], 11)
      else if ((mF ho 0 p f []).2.length : Int) < ho then ([], 13) else (outs (mF ho 0 p f []).2 ho.toNat, 0) := by
    simp only [matchF]
    rw [if_neg (by simpa using e1), if_neg (by simpa using e2), if_neg]
    rintro (hc | hc | hc)
    · exact hc ⟨e3, e4⟩
    · rw [e5] at hc; cases hc
    · rw [e6] at hc; cases hc
  have hnew := mF_new ho 266240 p 0 f [] hfs e6 hff
  generalize mF ho 0 p f [] = r at *
  obtain ⟨ok, m⟩ := r
  have h6 := tof_c 4 []
  have hhn : (ho.toNat : Int) = ho := by omega
  refine AC.mk Tryz.func11 rfl rfl rfl rfl rfl (Nat.le_of_ble_eq_true rfl) ?_
  repeat' (first | ((with_reducible refine D.nil ?_); refine AX.nilL ?_) | ((with_reducible refine D.load ?_); first | refine L.ldb U U U U U U ?_ | refine AX.sk U U ?_ | ((fail_if_success refine AX.wt U ?_); refine AX.gs U U (fun _ => trivial) (fun h => ?_) (fun h => ?_))) | ((with_reducible refine D.move ?_); first | refine L.mv U U U ?_ | refine AX.sk U U ?_ | ((fail_if_success refine AX.wt U ?_); refine AX.gs U U (fun _ => trivial) (fun h => ?_) (fun h => ?_))) | ((with_reducible refine D.assign ?_); refine L.asg U U U ?_) | ((with_reducible refine D.bin ?_); first | refine L.bn U U U U U ?_ | refine AX.sk U U ?_) | ((with_reducible refine D.call ?_); first | refine L.c2 (h1) U U U U ?_ | refine L.c2 (h2) U U U U ?_ | refine L.c2 (h3) U U U U ?_ | refine L.c2 (h4) U U U U ?_ | (apply L.cb2 (h5) [3, 2] 0 rfl; rfl; rfl; rfl; rfl; rfl; rfl; (focus ((repeat' (first | exact trivial | refine And.intro ?_ ?_ | refine ⟨_, U, _, U, _, U, ?_⟩ | exact VLe.refl _ | refine ⟨_, U, _, _, U, ?_, ?_⟩ | with_reducible exact rfl)); done)); rfl; rfl; rfl; rfl) | refine AX.sk U U ?_) | ((with_reducible refine D.box ?_); refine L.bx U U U U ?_) | ((with_reducible refine D.not ?_); first | refine L.nt U U U ?_ | refine AX.sk U U ?_) | ((with_reducible refine D.pick ?_); refine L.pk U U U U ?_) | ((with_reducible refine D.ax ?_); first | refine L.bd U U U U U ?_ | refine L.mmT U U U U U ?_) | ((with_reducible refine D.aw ?_); first | refine K.sq (AW.regL ?_) | refine K.sq (K.sq ?_) | refine AW.regL ?_ | refine AW.condT U ?_ | refine AW.condF U ?_ | refine AW.condS U (fun h => ?_) (fun h => ?_) | refine AW.skip ?_ | refine AW.ret ?_) | with_reducible refine K.tN ?_ | with_reducible refine K.tR ?_ | with_reducible refine K.r1 (by with_unfolding_all rfl) (by with_unfolding_all rfl) ?_)
  · exfalso; simp at h; omega
  · exfalso; simp at h; omega
  · have hok : ok = false := by simpa using h
    rw [em]
    simp only [hok, if_true]
    rfl
  have hok : ok = true := by simpa using h
  simp only [hok, if_false, Bool.true_eq_false] at em
  refine AW.range ho.toNat (fun m => True)
    (fun k => ([(1, .i ho), (3, .ptr 0 0), (5, .ptr 1 0), (10, .ptr 3 0), (11, .slice (.own 4) (.t .tm (outs m k))), (52, .i ho), (53, .i k)], ⟨5, [(0, .var p.view), (1, .var f.view), (2, .map .tm (m.map (·.1)) (m.map (·.2))), (3, .var [.i ho, .mp 2]), (4, .row)]⟩))
    (by omega) (fun m => rfl) (fun m => by rw [← hhn]; rfl) U trivial (Weak.mk [some 0, some 1, some 2, some 3, none] _ _ _ U U U U (by (repeat' (first | exact trivial | refine And.intro ?_ ?_ | refine ⟨_, U, _, U, ?_⟩ | exact VLe.refl _)); done) (by (repeat' (first | exact trivial | exact Or.inl U | refine And.intro ?_ ?_ | refine ⟨_, U, _, U, _, U, ?_⟩ | exact VLe.refl _ | refine ⟨_, U, _, _, U, ?_, ?_⟩ | with_reducible exact rfl)); done)) ?_ ?_
  · intro k hk _
    have hlen := outs_len m k
    have hs := outs_succ m k
    have hkl := keyAt_look (m := m) (k := (k : Int))
    have hbk := hob (k : Int)
    cases hka : keyAt (k : Int) (m.map (·.1)) with
    | none =>
      rw [hkl.1 hka] at hs hbk
      have hc := ownTm_c _ zeroT (Nat.le_refl _) (by decide)
      repeat' (first | ((with_reducible refine D.nil ?_); refine AX.nilL ?_) | ((with_reducible refine D.load ?_); refine L.ldb U U U U U U ?_) | ((with_reducible refine D.move ?_); refine L.mv U U U ?_) | ((with_reducible refine D.fieldAddr ?_); refine L.fab U U U U U ?_) | ((with_reducible refine D.assign ?_); refine L.asg U U U ?_) | ((with_reducible refine D.call ?_); first | refine L.apt U U U U U U (by first | exact trivial | exact ⟨rfl, trivial⟩) U U (by first | omega | (simp; omega)) ?_ | refine L.c2 (h6) U U U U ?_ | refine L.c2 (hc) U U U U ?_) | ((with_reducible refine D.extract ?_); refine L.ex U U U U ?_) | ((with_reducible refine D.alloc ?_); refine L.al U U U ?_) | ((with_reducible refine D.store ?_); refine L.st U U U U U U U U U ?_) | ((with_reducible refine D.not ?_); refine L.nt U U U ?_) | ((with_reducible refine D.ax ?_); first | refine L.nc U U U U ?_ | refine L.bs1 U U U U U (EC.fold_of U) U U ?_ | refine L.lkn U U U U U U (by first | assumption | rfl) U U U ?_) | ((with_reducible refine D.aw ?_); first | refine K.sq (AW.regL ?_) | refine K.sq (K.sq ?_) | refine AW.regL ?_ | refine AW.condT U ?_) | with_reducible refine K.tN ?_ | with_reducible refine K.bN ?_)
      exact ⟨rfl, trivial, (Weak.mk [some 0, some 1, some 2, some 3, some 6] _ _ _ U U U U (by (repeat' (first | exact trivial | refine And.intro ?_ ?_ | refine ⟨_, U, _, U, ?_⟩ | exact VLe.refl _ | exact VLe.of_eq (by simp [Sto.upd, hs, zeroT]))); done) (by (repeat' (first | exact trivial | exact Or.inr ⟨_, U, rfl⟩ | refine And.intro ?_ ?_ | refine ⟨_, U, _, U, _, U, ?_⟩ | exact VLe.refl _ | refine ⟨_, U, _, _, U, ?_, ?_⟩ | with_reducible exact rfl)); done))⟩
    | some i =>
      have hil : i < m.length := by have := (keyAt_some hka).2; simpa using this
      have hc0 : (m.map (·.2))[i]? = some (m[i]).2 := by rw [List.getElem?_map, List.getElem?_eq_getElem hil]; rfl
      have h7 := hkl.2 i hka
      rw [hc0] at h7
      rw [h7] at hs hbk
      simp only [Option.getD_some] at hs hbk
      have hc := ownTm_c _ (m[i]).2 (Nat.le_refl _) (by omega)
      repeat' (first | ((with_reducible refine D.nil ?_); refine AX.nilL ?_) | ((with_reducible refine D.load ?_); refine L.ldb U U U U U U ?_) | ((with_reducible refine D.move ?_); refine L.mv U U U ?_) | ((with_reducible refine D.fieldAddr ?_); refine L.fab U U U U U ?_) | ((with_reducible refine D.assign ?_); refine L.asg U U U ?_) | ((with_reducible refine D.call ?_); first | refine L.apt U U U U U U (by first | exact trivial | exact ⟨rfl, trivial⟩) U U (by first | omega | (simp; omega)) ?_ | refine L.c2 (hc) U U U U ?_) | ((with_reducible refine D.extract ?_); refine L.ex U U U U ?_) | ((with_reducible refine D.alloc ?_); refine L.al U U U ?_) | ((with_reducible refine D.store ?_); refine L.st U U U U U U U U U ?_) | ((with_reducible refine D.not ?_); refine L.nt U U U ?_) | ((with_reducible refine D.ax ?_); first | refine L.nc U U U U ?_ | refine L.bs1 U U U U U (EC.fold_of U) U U ?_ | refine L.lkuT U U U U U U (by first | assumption | rfl) (by first | assumption | rfl) U ?_) | ((with_reducible refine D.aw ?_); first | refine K.sq (AW.regL ?_) | refine K.sq (K.sq ?_) | refine AW.regL ?_ | refine AW.condF U ?_ | refine AW.skip ?_) | with_reducible refine K.tN ?_ | with_reducible refine K.bN ?_)
      exact ⟨rfl, trivial, (Weak.mk [some 0, some 1, some 2, some 3, some 6] _ _ _ U U U U (by (repeat' (first | exact trivial | refine And.intro ?_ ?_ | refine ⟨_, U, _, U, ?_⟩ | exact VLe.refl _ | exact VLe.of_eq (by simp [Sto.upd, hs]))); done) (by (repeat' (first | exact trivial | exact Or.inr ⟨_, U, rfl⟩ | refine And.intro ?_ ?_ | refine ⟨_, U, _, U, _, U, ?_⟩ | exact VLe.refl _ | refine ⟨_, U, _, _, U, ?_, ?_⟩ | with_reducible exact rfl)); done))⟩
  · intro _
    have h8 := fill_c p (outs m ho.toNat) (by omega) (by rw [outs_len]; omega) (fun t ht => by
      obtain ⟨j, hj, rfl⟩ := List.mem_map.1 ht
      have := hob (j : Int)
      simp only at this; omega)
    have h9 := fsame_c (fill p (outs m ho.toNat)).1 f (by have := fill_bd (p := p) (l := outs m ho.toNat); omega)
    have hml : (m.map (·.2)).length = m.length := List.length_map ..
    repeat' (first | ((with_reducible refine D.nil ?_); refine AX.nilL ?_) | ((with_reducible refine D.load ?_); first | refine L.ldb U U U U U U ?_ | refine AX.sk U U ?_ | ((fail_if_success refine AX.wt U ?_); refine AX.gs U U (fun _ => trivial) (fun h => ?_) (fun h => ?_))) | ((with_reducible refine D.move ?_); refine L.mv U U U ?_) | ((with_reducible refine D.fieldAddr ?_); refine L.fab U U U U U ?_) | ((with_reducible refine D.assign ?_); refine L.asg U U U ?_) | ((with_reducible refine D.bin ?_); refine L.bn U U U U U ?_) | ((with_reducible refine D.call ?_); first | refine L.c2 (h8) U U U U ?_ | refine L.c2 (h9) U U U U ?_ | refine AX.sk U U ?_ | refine L.lnm U U U U U ?_) | ((with_reducible refine D.extract ?_); refine L.ex U U U U ?_) | ((with_reducible refine D.alloc ?_); refine L.al U U U ?_) | ((with_reducible refine D.store ?_); refine L.st U U U U U U U U U ?_) | ((with_reducible refine D.not ?_); first | refine L.nt U U U ?_ | refine AX.sk U U ?_) | ((with_reducible refine D.pick ?_); refine L.pk U U U U ?_) | ((with_reducible refine D.ax ?_); refine L.nc U U U U ?_) | ((with_reducible refine D.aw ?_); first | refine K.sq (AW.regL ?_) | refine K.sq (K.sq ?_) | refine AW.regL ?_ | refine AW.condT U ?_ | refine AW.condS U (fun h => ?_) (fun h => ?_) | refine AW.skip ?_ | refine AW.ret ?_) | with_reducible refine K.tN ?_ | with_reducible refine K.tR ?_ | with_reducible refine K.r1 (by with_unfolding_all rfl) (by with_unfolding_all rfl) ?_)
    · have hx : (fill p (outs m ho.toNat)).2 ≠ 0 := by simpa using h
      rw [em, if_pos (.inl hx)]
      rfl
    · have hx : (fill p (outs m ho.toNat)).1 ≠ f := by simpa using h
      rw [em, if_pos (.inr hx)]
      rfl
    · rename_i h10 h11
      have hx : ¬ (fill p (outs m ho.toNat)).2 ≠ 0 := by simpa using h10
      have hy : ¬ (fill p (outs m ho.toNat)).1 ≠ f := by simpa using h11
      have hz : (m.length : Int) < ho := by simpa using h
      rw [em, if_neg (fun hc => hc.elim hx hy), if_pos hz]
      rfl
    · rename_i h10 h11
      have hx : ¬ (fill p (outs m ho.toNat)).2 ≠ 0 := by simpa using h10
      have hy : ¬ (fill p (outs m ho.toNat)).1 ≠ f := by simpa using h11
      have hz : ¬ (m.length : Int) < ho := by simpa using h
      rw [em, if_neg (fun hc => hc.elim hx hy), if_neg hz]
      rfl
end Go.Ab
namespace Go.Ab
open Go Go.Proofs
set_option maxRecDepth 100000
set_option maxHeartbeats 4000000
set_option linter.all false
theorem quant_ge {f : Fm} (h : f.shape = true) : quantK f.kind = decide (f.kind ≥ 4) := by
  rw [Bool.eq_iff_iff, quantK_iff, decide_eq_true_iff]
  constructor
  · intro h; omega
  · intro h4
    by_cases h7 : f.kind ≤ 7
    · omega
    · have := fshapeNo (f := f) (by omega) (by omega) (by cases hq : quantK f.kind with | false => rfl | true => rw [quantK_iff] at hq; omega)
      rw [h] at this; cases this
theorem rform_c (ho : Int) (hh : 0 ≤ ho ∧ ho ≤ 4096) : ∀ (n : Nat) (p f : Fm) (s : MSt) (b : Int), p.full ≤ n → n < 17179869184 → 0 ≤ b → b + n < 34359738368 → p.shape = true → f.shape = true → f.full < 68719476736 →
    p.nearE = true → f.nearE = true →
    AC E 62 [.ptr 0 0, .agg p.view, .agg f.view, .i b] ⟨2, mE ho s⟩ (.tup []) ⟨2, mE ho (rF ho b p f s)⟩ := by
  intro n
  induction n with
  | zero => intro p; intros; have := p.full_pos; omega
  | succ n ih =>
  intro p f s b hsz hn hb hbn hps hfs hff hpv hfv
  have hsz' := p.full_eq
  have hlen := lsum_len Fm.full Fm.full_pos p.args
  have hlen2 := lsum_len Tm.full Tm.full_pos p.terms
  have hff' := f.full_eq
  have he := rF_eq ho b p f s
  have hq := quant_ge hps
  have hty := sameTy_c _ p.ty f.ty (Nat.le_refl _) (by omega)
  have hup := upF_le p.kind b
  obtain ⟨m0, bad⟩ := s
  by_cases hr : bad = false ∧ p.kind = f.kind ∧ p.ty = f.ty
  case neg =>
    have e : rF ho b p f (m0, bad) = (m0, true) := by
      rw [he, if_pos]
      cases bad with
      | true => exact .inl rfl
      | false =>
        by_cases h1 : p.kind = f.kind
        · exact .inr (.inr fun h2 => hr ⟨rfl, h1, h2⟩)
        · exact .inr (.inl h1)
    rw [e]
    clear ih hpv hfv hsz' he
    cases bad with
    | true =>
      refine AC.mk Tryz.func62 rfl rfl rfl rfl rfl (Nat.le_of_ble_eq_true rfl) ?_
      repeat' (first | ((with_reducible refine D.nil ?_); refine AX.nilL ?_) | ((with_reducible refine D.load ?_); first | refine L.ldb U U U U U U ?_ | refine AX.sk U U ?_) | ((with_reducible refine D.move ?_); refine L.mv U U U ?_) | ((with_reducible refine D.fieldAddr ?_); first | refine L.fab U U U U U ?_ | refine AX.sk U U ?_) | ((with_reducible refine D.bin ?_); refine AX.sk U U ?_) | ((with_reducible refine D.call ?_); refine AX.sk U U ?_) | ((with_reducible refine D.box ?_); refine L.bx U U U U ?_) | ((with_reducible refine D.store ?_); refine L.st U U U U U U U U U ?_) | ((with_reducible refine D.not ?_); refine AX.sk U U ?_) | ((with_reducible refine D.pick ?_); refine L.pk U U U U ?_) | ((with_reducible refine D.ax ?_); refine L.nc U U U U ?_) | ((with_reducible refine D.aw ?_); (fail_if_success with_reducible refine D.stopR (id := 3) ?_); (fail_if_success with_reducible refine D.stopS (id := 3) ?_); first | refine K.sq (AW.regL ?_) | refine K.sq (K.sq ?_) | refine AW.regL ?_ | refine AW.condT U ?_ | refine AW.ret ?_) | with_reducible refine K.tN ?_ | with_reducible refine K.tR ?_)
      all_goals first
        | (exact K.n2 [some 0, some 1] U U U U U (by (repeat' (first | exact trivial | refine And.intro ?_ ?_ | refine ⟨_, U, _, U, _, U, ?_⟩ | exact VLe.refl _ | refine ⟨_, U, _, _, U, ?_, ?_⟩ | with_reducible exact rfl)); done) U (by simp [tupV, V.wk, V.wks, constV, Ty.view, Tm.view, e]))
        | (exfalso; simp at *; omega)
    | false =>
      refine AC.mk Tryz.func62 rfl rfl rfl rfl rfl (Nat.le_of_ble_eq_true rfl) ?_
      repeat' (first | ((with_reducible refine D.nil ?_); refine AX.nilL ?_) | ((with_reducible refine D.load ?_); first | refine L.ldb U U U U U U ?_ | refine AX.sk U U ?_) | ((with_reducible refine D.move ?_); refine L.mv U U U ?_) | ((with_reducible refine D.fieldAddr ?_); first | refine L.fab U U U U U ?_ | refine AX.sk U U ?_ | ((fail_if_success refine AX.wt U ?_); refine AX.gs U U (fun _ => trivial) (fun h => ?_) (fun h => ?_))) | ((with_reducible refine D.bin ?_); refine L.bn U U U U U ?_) | ((with_reducible refine D.call ?_); first | refine L.c2 (hty) U U U U ?_ | refine AX.sk U U ?_) | ((with_reducible refine D.box ?_); refine L.bx U U U U ?_) | ((with_reducible refine D.store ?_); refine L.st U U U U U U U U U ?_) | ((with_reducible refine D.not ?_); first | refine L.nt U U U ?_ | refine AX.sk U U ?_) | ((with_reducible refine D.pick ?_); refine L.pk U U U U ?_) | ((with_reducible refine D.ax ?_); refine L.nc U U U U ?_) | ((with_reducible refine D.aw ?_); (fail_if_success with_reducible refine D.stopR (id := 3) ?_); (fail_if_success with_reducible refine D.stopS (id := 3) ?_); first | refine K.sq (AW.regL ?_) | refine K.sq (K.sq ?_) | refine AW.regL ?_ | refine AW.condT U ?_ | refine AW.condS U (fun h => ?_) (fun h => ?_) | refine AW.skip ?_ | refine AW.ret ?_) | with_reducible refine K.tN ?_ | with_reducible refine K.tR ?_)
      all_goals first
        | (exact K.n2 [some 0, some 1] U U U U U (by (repeat' (first | exact trivial | refine And.intro ?_ ?_ | refine ⟨_, U, _, U, _, U, ?_⟩ | exact VLe.refl _ | refine ⟨_, U, _, _, U, ?_, ?_⟩ | with_reducible exact rfl)); done) U (by simp [tupV, V.wk, V.wks, constV, Ty.view, Tm.view, e]))
        | (exfalso; simp at *; omega)
        | (exfalso; simp at *; exact hr (by assumption) (by assumption))
  obtain ⟨rfl, hr1, hr2⟩ := hr
  have hal := head_fm hps hfs hr1
  have e1 : rF ho b p f (m0, false) = rFs ho (upF p.kind b) p.args f.args (rTs ho b p.terms f.terms (m0, false)) := by
    rw [he, if_neg (by simp [hr1, hr2])]
  rw [decide_eq_true hr2] at hty
  refine AC.mk Tryz.func62 rfl rfl rfl rfl rfl (Nat.le_of_ble_eq_true rfl) ?_
  repeat' (first | ((with_reducible refine D.nil ?_); refine AX.nilL ?_) | ((with_reducible refine D.load ?_); first | refine L.ldb U U U U U U ?_ | refine AX.sk U U ?_) | ((with_reducible refine D.move ?_); refine L.mv U U U ?_) | ((with_reducible refine D.fieldAddr ?_); first | refine L.fab U U U U U ?_ | refine AX.sk U U ?_ | ((fail_if_success refine AX.wt U ?_); refine AX.gs U U (fun _ => trivial) (fun h => ?_) (fun h => ?_))) | ((with_reducible refine D.bin ?_); refine L.bn U U U U U ?_) | ((with_reducible refine D.call ?_); first | refine L.lnt U U U U ?_ | refine L.c2 (hty) U U U U ?_ | refine AX.sk U U ?_) | ((with_reducible refine D.box ?_); refine L.bx U U U U ?_) | ((with_reducible refine D.not ?_); first | refine L.nt U U U ?_ | refine AX.sk U U ?_) | ((with_reducible refine D.pick ?_); refine L.pk U U U U ?_) | ((with_reducible refine D.ax ?_); refine L.nc U U U U ?_) | ((with_reducible refine D.aw ?_); (fail_if_success with_reducible refine D.stopR (id := 2) ?_); (fail_if_success with_reducible refine D.stopS (id := 2) ?_); first | refine K.sq (AW.regL ?_) | refine K.sq (K.sq ?_) | refine AW.regL ?_ | refine AW.condT U ?_ | refine AW.condF U ?_ | refine AW.skip ?_) | with_reducible refine K.tN ?_)
  all_goals first
    | (exfalso; simp at *; omega)
    | (exfalso; simp at *; contradiction)
    | skip
  refine AW.range p.terms.length (fun k => True)
    (fun k => ([(0, .ptr 0 0), (3, .i b), (5, .ptr 2 0), (6, .ptr 3 0), (33, .s .tm p.terms), (34, .i p.terms.length), (35, .i k)], ⟨4, [(0, .var [.i ho, .mp 1, .bool (rTs ho b (p.terms.take k) (f.terms.take k) (m0, false)).2]), (1, .map .tm ((rTs ho b (p.terms.take k) (f.terms.take k) (m0, false)).1.map (·.1)) ((rTs ho b (p.terms.take k) (f.terms.take k) (m0, false)).1.map (·.2))), (2, .var p.view), (3, .var f.view)]⟩))
    (by omega) (fun m => rfl) (fun m => rfl) U trivial (Weak.mk [some 0, some 1, some 2, some 3] _ _ _ U U U U (by (repeat' (first | exact trivial | refine And.intro ?_ ?_ | refine ⟨_, U, _, U, ?_⟩ | exact VLe.refl _)); done) (by (repeat' (first | exact trivial | refine And.intro ?_ ?_ | refine ⟨_, U, _, U, _, U, ?_⟩ | exact VLe.refl _ | refine ⟨_, U, _, _, U, ?_, ?_⟩ | (simp [Sto.upd, rTs]; done))); done)) ?_ ?_
  · intro k hk _
    have hk2 : k < f.terms.length := by omega
    have hs2 := lsum_mem Tm.full (List.getElem_mem hk)
    have hs3 := lsum_mem Tm.full (List.getElem_mem hk2)
    have hc := rterm_c ho hh _ p.terms[k] f.terms[k] (rTs ho b (p.terms.take k) (f.terms.take k) (m0, false)) b (Nat.le_refl _) (by omega) hb (by omega) (fshape_terms hps (List.getElem_mem hk)) (fshape_terms hfs (List.getElem_mem hk2)) (by omega)
      (nearE_terms hpv (List.getElem_mem hk)) (nearE_terms hfv (List.getElem_mem hk2))
    have htk := rTs_take ho b p.terms f.terms (m0, false) k hk hk2
    generalize rTs ho b (p.terms.take k) (f.terms.take k) (m0, false) = s at hc htk
    repeat' (first | ((with_reducible refine D.nil ?_); first | refine AX.nilL ?_ | refine AX.nilD (by kernel_rfl) ?_) | ((with_reducible refine D.load ?_); first | refine L.ldb U U U U U U ?_ | refine L.lda U U U U U ?_) | ((with_reducible refine D.move ?_); refine L.mv U U U ?_) | ((with_reducible refine D.fieldAddr ?_); refine L.fab U U U U U ?_) | ((with_reducible refine D.assign ?_); refine L.asg U U U ?_) | ((with_reducible refine D.call ?_); (apply L.cb2 (hc) [0, 1] 0 rfl; rfl; rfl; rfl; rfl; rfl; rfl; (focus ((repeat' (first | exact trivial | refine And.intro ?_ ?_ | refine ⟨_, U, _, U, _, U, ?_⟩ | exact VLe.refl _ | refine ⟨_, U, _, _, U, ?_, ?_⟩ | with_reducible exact rfl)); done)); rfl; rfl; rfl; rfl)) | ((with_reducible refine D.indexAddr ?_); refine L.ixt _ U U U U U U U (by assumption) ?_) | ((with_reducible refine D.aw ?_); first | refine K.sq (AW.regL ?_) | refine AW.regD mixed (by kernel_rfl) ?_) | with_reducible refine K.tN ?_ | with_reducible refine K.bN ?_)
    refine ⟨rfl, trivial, ?_⟩
    simp only [htk]
    exact (Weak.mk [some 0, some 1, some 2, some 3] _ _ _ U U U U (by (repeat' (first | exact trivial | refine And.intro ?_ ?_ | refine ⟨_, U, _, U, ?_⟩ | exact VLe.refl _)); done) (by (repeat' (first | exact trivial | refine And.intro ?_ ?_ | refine ⟨_, U, _, U, _, U, ?_⟩ | exact VLe.refl _ | refine ⟨_, U, _, _, U, ?_, ?_⟩ | with_reducible exact rfl)); done))
  intro _
  rw [List.take_of_length_le (Nat.le_refl _), List.take_of_length_le (show f.terms.length ≤ p.terms.length by omega)]
  generalize rTs ho b p.terms f.terms (m0, false) = s1 at e1
  rw [e1]
  repeat' (first | with_reducible refine K.tN ?_)
  refine AW.cut (ι := Unit) (fun _ => ([(0, .ptr 0 0), (3, .i (upF p.kind b)), (5, .ptr 2 0), (6, .ptr 3 0)], ⟨4, [(0, .var [.i ho, .mp 1, .bool s1.2]), (1, .map .tm (s1.1.map (·.1)) (s1.1.map (·.2))), (2, .var p.view), (3, .var f.view)]⟩)) ?_ ?_
  · clear ih he hpv hfv hsz'
    repeat' (first | ((with_reducible refine D.nil ?_); refine AX.nilL ?_) | ((with_reducible refine D.load ?_); refine L.ldb U U U U U U ?_) | ((with_reducible refine D.move ?_); refine L.mv U U U ?_) | ((with_reducible refine D.fieldAddr ?_); refine L.fab U U U U U ?_) | ((with_reducible refine D.assign ?_); refine L.asg U U U ?_) | ((with_reducible refine D.bin ?_); first | refine L.ad U U U U (by omega) ?_ | refine L.bn U U U U U ?_) | ((with_reducible refine D.aw ?_); first | refine K.sq (AW.regL ?_) | refine AW.regL ?_ | refine AW.condS U (fun h => ?_) (fun h => ?_) | refine AW.skip ?_) | with_reducible refine K.tN ?_)
    · have e : upF p.kind b = b + 1 := by simp only [upF]; rw [hq, if_pos (by simpa using h)]
      rw [e]
      exact ⟨(), (Weak.mk [some 0, some 1, some 2, some 3] _ _ _ U U U U (by (repeat' (first | exact trivial | refine And.intro ?_ ?_ | refine ⟨_, U, _, U, ?_⟩ | exact VLe.refl _)); done) (by (repeat' (first | exact trivial | refine And.intro ?_ ?_ | refine ⟨_, U, _, U, _, U, ?_⟩ | exact VLe.refl _ | refine ⟨_, U, _, _, U, ?_, ?_⟩ | with_reducible exact rfl)); done))⟩
    · have e : upF p.kind b = b := by simp only [upF]; rw [hq, if_neg (by simpa using h)]
      rw [e]
      exact ⟨(), (Weak.mk [some 0, some 1, some 2, some 3] _ _ _ U U U U (by (repeat' (first | exact trivial | refine And.intro ?_ ?_ | refine ⟨_, U, _, U, ?_⟩ | exact VLe.refl _)); done) (by (repeat' (first | exact trivial | refine And.intro ?_ ?_ | refine ⟨_, U, _, U, _, U, ?_⟩ | exact VLe.refl _ | refine ⟨_, U, _, _, U, ?_, ?_⟩ | with_reducible exact rfl)); done))⟩
  intro _
  repeat' (first | ((with_reducible refine D.nil ?_); refine AX.nilL ?_) | ((with_reducible refine D.load ?_); refine L.ldb U U U U U U ?_) | ((with_reducible refine D.move ?_); refine L.mv U U U ?_) | ((with_reducible refine D.fieldAddr ?_); refine L.fab U U U U U ?_) | ((with_reducible refine D.call ?_); refine L.lnt U U U U ?_) | ((with_reducible refine D.aw ?_); refine K.sq (AW.regL ?_)) | with_reducible refine K.tN ?_)
  refine AW.range p.args.length (fun k => True)
    (fun k => ([(0, .ptr 0 0), (3, .i (upF p.kind b)), (5, .ptr 2 0), (6, .ptr 3 0), (58, .s .fm p.args), (59, .i p.args.length), (60, .i k)], ⟨4, [(0, .var [.i ho, .mp 1, .bool (rFs ho (upF p.kind b) (p.args.take k) (f.args.take k) s1).2]), (1, .map .tm ((rFs ho (upF p.kind b) (p.args.take k) (f.args.take k) s1).1.map (·.1)) ((rFs ho (upF p.kind b) (p.args.take k) (f.args.take k) s1).1.map (·.2))), (2, .var p.view), (3, .var f.view)]⟩))
    (by omega) (fun m => rfl) (fun m => rfl) U trivial (Weak.mk [some 0, some 1, some 2, some 3] _ _ _ U U U U (by (repeat' (first | exact trivial | refine And.intro ?_ ?_ | refine ⟨_, U, _, U, ?_⟩ | exact VLe.refl _)); done) (by (repeat' (first | exact trivial | refine And.intro ?_ ?_ | refine ⟨_, U, _, U, _, U, ?_⟩ | exact VLe.refl _ | refine ⟨_, U, _, _, U, ?_, ?_⟩ | (simp [Sto.upd, rFs]; done))); done)) ?_ ?_
  · intro k hk _
    have hk2 : k < f.args.length := by omega
    have hs2 := lsum_mem Fm.full (List.getElem_mem hk)
    have hs3 := lsum_mem Fm.full (List.getElem_mem hk2)
    have hc := ih p.args[k] f.args[k] (rFs ho (upF p.kind b) (p.args.take k) (f.args.take k) s1) (upF p.kind b) (by omega) (by omega) (by omega) (by omega) (fshape_args hps (List.getElem_mem hk)) (fshape_args hfs (List.getElem_mem hk2)) (by omega)
      (nearE_args hpv (List.getElem_mem hk)) (nearE_args hfv (List.getElem_mem hk2))
    have htk := rFs_take ho (upF p.kind b) p.args f.args s1 k hk hk2
    generalize rFs ho (upF p.kind b) (p.args.take k) (f.args.take k) s1 = s at hc htk
    repeat' (first | ((with_reducible refine D.nil ?_); first | refine AX.nilL ?_ | refine AX.nilD (by kernel_rfl) ?_) | ((with_reducible refine D.load ?_); first | refine L.ldb U U U U U U ?_ | refine L.lda U U U U U ?_) | ((with_reducible refine D.move ?_); refine L.mv U U U ?_) | ((with_reducible refine D.fieldAddr ?_); refine L.fab U U U U U ?_) | ((with_reducible refine D.assign ?_); refine L.asg U U U ?_) | ((with_reducible refine D.call ?_); (apply L.cb2 (hc) [0, 1] 0 rfl; rfl; rfl; rfl; rfl; rfl; rfl; (focus ((repeat' (first | exact trivial | refine And.intro ?_ ?_ | refine ⟨_, U, _, U, _, U, ?_⟩ | exact VLe.refl _ | refine ⟨_, U, _, _, U, ?_, ?_⟩ | with_reducible exact rfl)); done)); rfl; rfl; rfl; rfl)) | ((with_reducible refine D.indexAddr ?_); refine L.ixt _ U U U U U U U (by assumption) ?_) | ((with_reducible refine D.aw ?_); first | refine K.sq (AW.regL ?_) | refine AW.regD mixed (by kernel_rfl) ?_) | with_reducible refine K.tN ?_ | with_reducible refine K.bN ?_)
    refine ⟨rfl, trivial, ?_⟩
    simp only [htk]
    exact (Weak.mk [some 0, some 1, some 2, some 3] _ _ _ U U U U (by (repeat' (first | exact trivial | refine And.intro ?_ ?_ | refine ⟨_, U, _, U, ?_⟩ | exact VLe.refl _)); done) (by (repeat' (first | exact trivial | refine And.intro ?_ ?_ | refine ⟨_, U, _, U, _, U, ?_⟩ | exact VLe.refl _ | refine ⟨_, U, _, _, U, ?_, ?_⟩ | with_reducible exact rfl)); done))
  · intro _
    rw [List.take_of_length_le (Nat.le_refl _), List.take_of_length_le (show f.args.length ≤ p.args.length by omega)]
    skip
    (exact K.n2 [some 0, some 1] U U U U U (by (repeat' (first | exact trivial | refine And.intro ?_ ?_ | refine ⟨_, U, _, U, _, U, ?_⟩ | exact VLe.refl _ | refine ⟨_, U, _, _, U, ?_, ?_⟩ | with_reducible exact rfl)); done) U (by simp [tupV, V.wk, V.wks, constV, Ty.view, Tm.view, e1]))
theorem outsR_succ (m : FMap) (n : Nat) : outsR m (n + 1) = outsR m n ++ [(lookT m n).getD unitM] := by simp [outsR, List.range_succ]
theorem outsR_len (m : FMap) (n : Nat) : (outsR m n).length = n := by simp [outsR]
theorem openR_succ (m : FMap) (n : Nat) : openR m (n + 1) = (openR m n || (lookT m n).isNone) := by simp [openR, List.range_succ]
theorem rF_map {p f : Fm} {h : Int} (hh : 0 ≤ h) (hp : p.shape = true) (hf : f.shape = true) (hg : (rF h 0 p f ([], false)).2 = false) : (rF h 0 p f ([], false)).1 = (mF h 0 p f []).2 := by
  rcases rF_mF h hh p 0 f [] (Int.le_refl _) hp hf with ⟨_, h2⟩ | ⟨_, h2⟩
  · rw [h2]
  · rw [hg] at h2; cases h2
theorem rmatch_c (p f : Fm) (ho : Int) (hp : p.full < 17179869000) (hf : f.full < 17179869000) : PC E 20 [.agg p.view, .i ho, .agg f.view] (.tup [.s .tm (matchF p ho f).1, .i (matchF p ho f).2]) := by
  rw [← matchR_eq]
  have h1 := fcheckR_c p (by omega)
  have h2 := fcheckR_c f (by omega)
  by_cases e1 : p.err = 0
  rotate_left
  · have e : matchR p ho f = ([], p.err) := by simp only [matchR]; rw [if_pos e1]
    rw [e]
    refine AC.mk Tryz.func20 rfl rfl rfl rfl rfl (Nat.le_of_ble_eq_true rfl) ?_
    repeat' (first | ((with_reducible refine D.nil ?_); refine AX.nilL ?_) | ((with_reducible refine D.load ?_); refine L.ldb U U U U U U ?_) | ((with_reducible refine D.move ?_); refine L.mv U U U ?_) | ((with_reducible refine D.assign ?_); refine L.asg U U U ?_) | ((with_reducible refine D.bin ?_); refine L.bn U U U U U ?_) | ((with_reducible refine D.call ?_); refine L.c2 (h1) U U U U ?_) | ((with_reducible refine D.box ?_); refine L.bx U U U U ?_) | ((with_reducible refine D.aw ?_); (fail_if_success with_reducible refine D.stopR (id := 4) ?_); (fail_if_success with_reducible refine D.stopS (id := 4) ?_); first | refine K.sq (AW.regL ?_) | refine K.sq (K.sq ?_) | refine AW.regL ?_ | refine AW.condS U (fun h => ?_) (fun h => ?_) | refine AW.skip ?_ | refine AW.ret ?_) | with_reducible refine K.tN ?_ | with_reducible refine K.tR ?_ | with_reducible refine K.r1 (by with_unfolding_all rfl) (by with_unfolding_all rfl) ?_)
    all_goals first
      | rfl
      | (exfalso; simp [e1] at h)
  by_cases e2 : f.err = 0
  rotate_left
  · have e : matchR p ho f = ([], f.err) := by simp only [matchR]; rw [if_neg (by simpa using e1), if_pos e2]
    rw [e1] at h1
    rw [e]
    refine AC.mk Tryz.func20 rfl rfl rfl rfl rfl (Nat.le_of_ble_eq_true rfl) ?_
    repeat' (first | ((with_reducible refine D.nil ?_); refine AX.nilL ?_) | ((with_reducible refine D.load ?_); refine L.ldb U U U U U U ?_) | ((with_reducible refine D.move ?_); refine L.mv U U U ?_) | ((with_reducible refine D.assign ?_); refine L.asg U U U ?_) | ((with_reducible refine D.bin ?_); refine L.bn U U U U U ?_) | ((with_reducible refine D.call ?_); first | refine L.c2 (h1) U U U U ?_ | refine L.c2 (h2) U U U U ?_) | ((with_reducible refine D.box ?_); refine L.bx U U U U ?_) | ((with_reducible refine D.aw ?_); (fail_if_success with_reducible refine D.stopR (id := 7) ?_); (fail_if_success with_reducible refine D.stopS (id := 7) ?_); first | refine K.sq (AW.regL ?_) | refine K.sq (K.sq ?_) | refine AW.regL ?_ | refine AW.condF U ?_ | refine AW.condS U (fun h => ?_) (fun h => ?_) | refine AW.skip ?_ | refine AW.ret ?_) | with_reducible refine K.tN ?_ | with_reducible refine K.tR ?_ | with_reducible refine K.r1 (by with_unfolding_all rfl) (by with_unfolding_all rfl) ?_)
    all_goals first
      | rfl
      | (exfalso; simp [e2] at h)
  rw [e1] at h1
  rw [e2] at h2
  have hps := ((Fm.err_iff p).1 e1).1
  have hfs := ((Fm.err_iff f).1 e2).1
  have h3 := rleastF_c 268435456 (by omega) _ p (Nat.le_refl _) (by omega) hps
  have h4 := rleastF_c 268435456 (by omega) _ f (Nat.le_refl _) (by omega) hfs
  rw [← nearEF_least] at h3 h4
  by_cases e3 : 0 ≤ ho ∧ ho ≤ 16 ∧ p.nearE = true ∧ f.nearE = true
  rotate_left
  · have e : matchR p ho f = ([], 1) := by
      simp only [matchR]; rw [if_neg (by simpa using e1), if_neg (by simpa using e2), if_pos]
      cases hn1 : p.nearE with
      | false => exact .inr (.inl rfl)
      | true =>
        cases hn2 : f.nearE with
        | false => exact .inr (.inr rfl)
        | true => exact .inl fun hc => e3 ⟨hc.1, hc.2, hn1, hn2⟩
    rw [e]
    refine AC.mk Tryz.func20 rfl rfl rfl rfl rfl (Nat.le_of_ble_eq_true rfl) ?_
    repeat' (first | ((with_reducible refine D.nil ?_); refine AX.nilL ?_) | ((with_reducible refine D.load ?_); first | refine L.ldb U U U U U U ?_ | refine AX.sk U U ?_ | ((fail_if_success refine AX.wt U ?_); refine AX.gs U U (fun _ => trivial) (fun h => ?_) (fun h => ?_))) | ((with_reducible refine D.move ?_); first | refine L.mv U U U ?_ | refine AX.sk U U ?_ | ((fail_if_success refine AX.wt U ?_); refine AX.gs U U (fun _ => trivial) (fun h => ?_) (fun h => ?_))) | ((with_reducible refine D.assign ?_); refine L.asg U U U ?_) | ((with_reducible refine D.bin ?_); first | refine L.bn U U U U U ?_ | refine AX.sk U U ?_) | ((with_reducible refine D.call ?_); first | refine L.c2 (h1) U U U U ?_ | refine L.c2 (h2) U U U U ?_ | refine L.c2 (h3) U U U U ?_ | refine L.c2 (h4) U U U U ?_ | refine AX.sk U U ?_) | ((with_reducible refine D.box ?_); refine L.bx U U U U ?_) | ((with_reducible refine D.not ?_); first | refine L.nt U U U ?_ | refine AX.sk U U ?_) | ((with_reducible refine D.pick ?_); refine L.pk U U U U ?_) | ((with_reducible refine D.aw ?_); (fail_if_success with_reducible refine D.stopR (id := 9) ?_); (fail_if_success with_reducible refine D.stopS (id := 9) ?_); first | refine K.sq (AW.regL ?_) | refine K.sq (K.sq ?_) | refine AW.regL ?_ | refine AW.condT U ?_ | refine AW.condF U ?_ | refine AW.condS U (fun h => ?_) (fun h => ?_) | refine AW.skip ?_ | refine AW.ret ?_) | with_reducible refine K.tN ?_ | with_reducible refine K.tR ?_ | with_reducible refine K.r1 (by with_unfolding_all rfl) (by with_unfolding_all rfl) ?_)
    all_goals first
      | rfl
      | (exfalso; apply e3; simp at *; omega)
      | (exfalso; apply e3; simp_all; done)
      | (exfalso; apply e3; simp_all; omega)
  obtain ⟨e3, e4, e5, e6⟩ := e3
  rw [e5] at h3
  rw [e6] at h4
  have h5 := rform_c ho (by omega) _ p f ([], false) 0 (Nat.le_refl _) (by omega) (by omega) (by omega) hps hfs (by omega) e5 e6
  have hob := outs_bd (p := p) (h := ho) e2 e6
  have hmap := rF_map e3 hps hfs
  have em : matchR p ho f = if (rF ho 0 p f ([], false)).2 = true then ([], 11)
      else if (fill p (outsR (rF ho 0 p f ([], false)).1 ho.toNat)).2 ≠ 0 ∨ (fill p (outsR (rF ho 0 p f ([], false)).1 ho.toNat)).1 ≠ f then ([], 11)
      else if openR (rF ho 0 p f ([], false)).1 ho.toNat = true then ([], 13) else (outsR (rF ho 0 p f ([], false)).1 ho.toNat, 0) := by
    simp only [matchR]
    rw [if_neg (by simpa using e1), if_neg (by simpa using e2), if_neg]
    rintro (hc | hc | hc)
    · exact hc ⟨e3, e4⟩
    · rw [e5] at hc; cases hc
    · rw [e6] at hc; cases hc
  generalize rF ho 0 p f ([], false) = r at *
  obtain ⟨m, bad⟩ := r
  have h6 := n_c 13 [] (by decide)
  have hhn : (ho.toNat : Int) = ho := by omega
  have h5 : AC E 62 [.ptr 0 0, .agg p.view, .agg f.view, .i 0] ⟨2, [(0, .var [.i ho, .mp 1, .bool false]), (1, .map .tm [] [])]⟩ (.tup []) ⟨2, [(0, .var [.i ho, .mp 1, .bool bad]), (1, .map .tm (m.map (·.1)) (m.map (·.2)))]⟩ := h5
  cases bad with
  | true =>
    rw [em, if_pos rfl]
    refine AC.mk Tryz.func20 rfl rfl rfl rfl rfl (Nat.le_of_ble_eq_true rfl) ?_
    repeat' (first | ((with_reducible refine D.nil ?_); refine AX.nilL ?_) | ((with_reducible refine D.load ?_); first | refine L.ldb U U U U U U ?_ | refine AX.sk U U ?_ | ((fail_if_success refine AX.wt U ?_); refine AX.gs U U (fun _ => trivial) (fun h => ?_) (fun h => ?_))) | ((with_reducible refine D.move ?_); first | refine L.mv U U U ?_ | refine AX.sk U U ?_ | ((fail_if_success refine AX.wt U ?_); refine AX.gs U U (fun _ => trivial) (fun h => ?_) (fun h => ?_))) | ((with_reducible refine D.fieldAddr ?_); refine L.fab U U U U U ?_) | ((with_reducible refine D.assign ?_); refine L.asg U U U ?_) | ((with_reducible refine D.bin ?_); first | refine L.bn U U U U U ?_ | refine AX.sk U U ?_) | ((with_reducible refine D.call ?_); first | refine L.c2 (h1) U U U U ?_ | refine L.c2 (h2) U U U U ?_ | refine L.c2 (h3) U U U U ?_ | refine L.c2 (h4) U U U U ?_ | (apply L.cb2 (h5) [3, 2] 0 rfl; rfl; rfl; rfl; rfl; rfl; rfl; (focus ((repeat' (first | exact trivial | refine And.intro ?_ ?_ | refine ⟨_, U, _, U, _, U, ?_⟩ | exact VLe.refl _ | refine ⟨_, U, _, _, U, ?_, ?_⟩ | with_reducible exact rfl)); done)); rfl; rfl; rfl; rfl) | refine AX.sk U U ?_) | ((with_reducible refine D.box ?_); refine L.bx U U U U ?_) | ((with_reducible refine D.not ?_); first | refine L.nt U U U ?_ | refine AX.sk U U ?_) | ((with_reducible refine D.pick ?_); refine L.pk U U U U ?_) | ((with_reducible refine D.ax ?_); first | refine L.nc U U U U ?_ | refine L.bd U U U U U ?_ | refine L.mmT U U U U U ?_) | ((with_reducible refine D.aw ?_); (fail_if_success with_reducible refine D.stopR (id := 8) ?_); (fail_if_success with_reducible refine D.stopS (id := 8) ?_); first | refine K.sq (AW.regL ?_) | refine K.sq (K.sq ?_) | refine AW.regL ?_ | refine AW.condT U ?_ | refine AW.condF U ?_ | refine AW.skip ?_ | refine AW.ret ?_) | with_reducible refine K.tN ?_ | with_reducible refine K.tR ?_ | with_reducible refine K.r1 (by with_unfolding_all rfl) (by with_unfolding_all rfl) ?_)
    all_goals first
      | rfl
      | (exfalso; simp at h; omega)
      | (exfalso; simp at *; omega)
  | false =>
  have hmap : m = (mF ho 0 p f []).2 := hmap rfl
  rw [← hmap] at hob
  rw [if_neg (by simp)] at em
  refine AC.mk Tryz.func20 rfl rfl rfl rfl rfl (Nat.le_of_ble_eq_true rfl) ?_
  repeat' (first | ((with_reducible refine D.nil ?_); refine AX.nilL ?_) | ((with_reducible refine D.load ?_); first | refine L.ldb U U U U U U ?_ | refine AX.sk U U ?_ | ((fail_if_success refine AX.wt U ?_); refine AX.gs U U (fun _ => trivial) (fun h => ?_) (fun h => ?_))) | ((with_reducible refine D.move ?_); first | refine L.mv U U U ?_ | refine AX.sk U U ?_ | ((fail_if_success refine AX.wt U ?_); refine AX.gs U U (fun _ => trivial) (fun h => ?_) (fun h => ?_))) | ((with_reducible refine D.fieldAddr ?_); refine L.fab U U U U U ?_) | ((with_reducible refine D.assign ?_); refine L.asg U U U ?_) | ((with_reducible refine D.bin ?_); first | refine L.bn U U U U U ?_ | refine AX.sk U U ?_) | ((with_reducible refine D.call ?_); first | refine L.c2 (h1) U U U U ?_ | refine L.c2 (h2) U U U U ?_ | refine L.c2 (h3) U U U U ?_ | refine L.c2 (h4) U U U U ?_ | (apply L.cb2 (h5) [3, 2] 0 rfl; rfl; rfl; rfl; rfl; rfl; rfl; (focus ((repeat' (first | exact trivial | refine And.intro ?_ ?_ | refine ⟨_, U, _, U, _, U, ?_⟩ | exact VLe.refl _ | refine ⟨_, U, _, _, U, ?_, ?_⟩ | with_reducible exact rfl)); done)); rfl; rfl; rfl; rfl) | refine AX.sk U U ?_) | ((with_reducible refine D.box ?_); refine L.bx U U U U ?_) | ((with_reducible refine D.not ?_); first | refine L.nt U U U ?_ | refine AX.sk U U ?_) | ((with_reducible refine D.pick ?_); refine L.pk U U U U ?_) | ((with_reducible refine D.ax ?_); first | refine L.nc U U U U ?_ | refine L.bd U U U U U ?_ | refine L.mmT U U U U U ?_) | ((with_reducible refine D.aw ?_); (fail_if_success with_reducible refine D.stopR (id := 8) ?_); (fail_if_success with_reducible refine D.stopS (id := 8) ?_); first | refine K.sq (AW.regL ?_) | refine K.sq (K.sq ?_) | refine AW.regL ?_ | refine AW.condT U ?_ | refine AW.condF U ?_ | refine AW.skip ?_) | with_reducible refine K.tN ?_)
  all_goals first
    | (exfalso; simp at h; omega)
    | (exfalso; simp at *; omega)
    | skip
  refine AW.block (AW.upto ho.toNat (fun k => True)
    (fun k => ([(1, .i ho), (3, .ptr 0 0), (5, .ptr 1 0), (10, .ptr 3 0), (11, .slice (.own 4) (.t .tm (outsR m k))), (12, .bool (openR m k)), (13, .i k)], ⟨5, [(0, .var p.view), (1, .var f.view), (2, .map .tm (m.map (·.1)) (m.map (·.2))), (3, .var [.i ho, .mp 2, .bool false]), (4, .row)]⟩))
    trivial (Weak.mk [some 0, some 1, some 2, some 3, none] _ _ _ U U U U (by (repeat' (first | exact trivial | refine And.intro ?_ ?_ | refine ⟨_, U, _, U, ?_⟩ | exact VLe.refl _)); done) (by (repeat' (first | exact trivial | exact Or.inl U | refine And.intro ?_ ?_ | refine ⟨_, U, _, U, _, U, ?_⟩ | exact VLe.refl _ | refine ⟨_, U, _, _, U, ?_, ?_⟩ | with_reducible exact rfl)); done)) fun k hk _ => ?_)
  by_cases hlt : k < ho.toNat
  · have hlen := outsR_len m k
    have hs := outsR_succ m k
    have ho2 := openR_succ m k
    have hkl := keyAt_look (m := m) (k := (k : Int))
    cases hka : keyAt (k : Int) (m.map (·.1)) with
    | none =>
      rw [hkl.1 hka] at hs ho2
      repeat' (first | ((with_reducible refine D.nil ?_); refine AX.nilL ?_) | ((with_reducible refine D.load ?_); refine L.ldb U U U U U U ?_) | ((with_reducible refine D.move ?_); refine L.mv U U U ?_) | ((with_reducible refine D.fieldAddr ?_); refine L.fab U U U U U ?_) | ((with_reducible refine D.assign ?_); refine L.asg U U U ?_) | ((with_reducible refine D.bin ?_); first | refine L.ad U U U U (by omega) ?_ | refine L.bn U U U U U ?_) | ((with_reducible refine D.call ?_); first | refine L.apt U U U U U U (by first | exact trivial | exact ⟨rfl, trivial⟩) U U (by first | omega | (simp; omega)) ?_ | refine L.c2 (h6) U U U U ?_) | ((with_reducible refine D.extract ?_); refine L.ex U U U U ?_) | ((with_reducible refine D.alloc ?_); refine L.al U U U ?_) | ((with_reducible refine D.store ?_); refine L.st U U U U U U U U U ?_) | ((with_reducible refine D.not ?_); refine L.nt U U U ?_) | ((with_reducible refine D.ax ?_); first | refine L.nc U U U U ?_ | refine L.bs1 U U U U U (EC.fold_of U) U U ?_ | refine L.lkn U U U U U U (by first | assumption | rfl) U U U ?_) | ((with_reducible refine D.aw ?_); first | ((with_reducible refine D.sblk ?_); refine K.sq (AW.block ?_)) | refine K.sq (AW.regL ?_) | refine K.sq (K.sq ?_) | refine AW.regL ?_ | refine AW.condT U ?_ | refine AW.condS U (fun h => ?_) (fun h => ?_) | refine AW.skip ?_ | refine AW.exit ?_) | with_reducible refine K.tN ?_ | with_reducible refine K.bN ?_ | with_reducible refine K.tE ?_ | with_reducible refine K.bX (by with_unfolding_all rfl) ?_ | with_reducible refine K.uE ?_)
      all_goals first
        | (exfalso; simp at h; omega)
        | skip
      refine ⟨hlt, trivial, (Weak.mk [some 0, some 1, some 2, some 3, some 6] _ _ _ U U U U (by (repeat' (first | exact trivial | refine And.intro ?_ ?_ | refine ⟨_, U, _, U, ?_⟩ | exact VLe.refl _ | exact VLe.of_eq (by simp [Sto.upd, hs, ho2, unitM]))); done) (by (repeat' (first | exact trivial | exact Or.inr ⟨_, U, rfl⟩ | refine And.intro ?_ ?_ | refine ⟨_, U, _, U, _, U, ?_⟩ | exact VLe.refl _ | refine ⟨_, U, _, _, U, ?_, ?_⟩ | with_reducible exact rfl)); done))⟩
    | some i =>
      have hil : i < m.length := by have := (keyAt_some hka).2; simpa using this
      have hc0 : (m.map (·.2))[i]? = some (m[i]).2 := by rw [List.getElem?_map, List.getElem?_eq_getElem hil]; rfl
      have h7 := hkl.2 i hka
      rw [hc0] at h7
      rw [h7] at hs ho2
      simp only [Option.getD_some, Option.isNone_some, Bool.or_false] at hs ho2
      repeat' (first | ((with_reducible refine D.nil ?_); refine AX.nilL ?_) | ((with_reducible refine D.load ?_); refine L.ldb U U U U U U ?_) | ((with_reducible refine D.move ?_); refine L.mv U U U ?_) | ((with_reducible refine D.fieldAddr ?_); refine L.fab U U U U U ?_) | ((with_reducible refine D.assign ?_); refine L.asg U U U ?_) | ((with_reducible refine D.bin ?_); first | refine L.ad U U U U (by omega) ?_ | refine L.bn U U U U U ?_) | ((with_reducible refine D.call ?_); refine L.apt U U U U U U (by first | exact trivial | exact ⟨rfl, trivial⟩) U U (by first | omega | (simp; omega)) ?_) | ((with_reducible refine D.extract ?_); refine L.ex U U U U ?_) | ((with_reducible refine D.alloc ?_); refine L.al U U U ?_) | ((with_reducible refine D.store ?_); refine L.st U U U U U U U U U ?_) | ((with_reducible refine D.not ?_); refine L.nt U U U ?_) | ((with_reducible refine D.ax ?_); first | refine L.nc U U U U ?_ | refine L.bs1 U U U U U (EC.fold_of U) U U ?_ | refine L.lkuT U U U U U U (by first | assumption | rfl) (by first | assumption | rfl) U ?_) | ((with_reducible refine D.aw ?_); first | ((with_reducible refine D.sblk ?_); refine K.sq (AW.block ?_)) | refine K.sq (AW.regL ?_) | refine K.sq (K.sq ?_) | refine AW.regL ?_ | refine AW.condF U ?_ | refine AW.condS U (fun h => ?_) (fun h => ?_) | refine AW.skip ?_ | refine AW.exit ?_) | with_reducible refine K.tN ?_ | with_reducible refine K.bN ?_ | with_reducible refine K.tE ?_ | with_reducible refine K.bX (by with_unfolding_all rfl) ?_ | with_reducible refine K.uE ?_)
      all_goals first
        | (exfalso; simp at h; omega)
        | skip
      refine ⟨hlt, trivial, (Weak.mk [some 0, some 1, some 2, some 3, some 6] _ _ _ U U U U (by (repeat' (first | exact trivial | refine And.intro ?_ ?_ | refine ⟨_, U, _, U, ?_⟩ | exact VLe.refl _ | exact VLe.of_eq (by simp [Sto.upd, hs, ho2]))); done) (by (repeat' (first | exact trivial | exact Or.inr ⟨_, U, rfl⟩ | refine And.intro ?_ ?_ | refine ⟨_, U, _, U, _, U, ?_⟩ | exact VLe.refl _ | refine ⟨_, U, _, _, U, ?_, ?_⟩ | with_reducible exact rfl)); done))⟩
  · obtain rfl : k = ho.toNat := by omega
    have h8 := fillR_c p (outsR m ho.toNat) (by omega) (fun _ t ht => by
      obtain ⟨j, hj, rfl⟩ := List.mem_map.1 ht
      have := hob (j : Int)
      cases hl : lookT m (j : Int) with
      | none => simp [unitM, Tm.full, Tm.fulls, Ty.size, Ty.sizes]
      | some t => rw [hl] at this; simp only [Option.getD_some] at this ⊢; omega)
    have h9 := fsameR_c _ (fill p (outsR m ho.toNat)).1 f (Nat.le_refl _) (by have := fill_bd (p := p) (l := outsR m ho.toNat); omega)
    repeat' (first | ((with_reducible refine D.nil ?_); refine AX.nilL ?_) | ((with_reducible refine D.load ?_); refine L.ldb U U U U U U ?_) | ((with_reducible refine D.move ?_); refine L.mv U U U ?_) | ((with_reducible refine D.bin ?_); refine L.bn U U U U U ?_) | ((with_reducible refine D.aw ?_); (fail_if_success with_reducible refine D.stopR (id := 18) ?_); (fail_if_success with_reducible refine D.stopS (id := 18) ?_); first | ((with_reducible refine D.sblk ?_); refine K.sq (AW.block ?_)) | refine K.sq (AW.regL ?_) | refine K.sq (K.sq ?_) | refine AW.regL ?_ | refine AW.condS U (fun h => ?_) (fun h => ?_) | refine AW.skip ?_ | refine AW.exit ?_) | with_reducible refine K.tN ?_ | with_reducible refine K.tE ?_ | with_reducible refine K.bX (by with_unfolding_all rfl) ?_ | with_reducible refine K.uE ?_)
    all_goals first
      | (exfalso; simp at h; omega)
      | skip
    by_cases hx : (fill p (outsR m ho.toNat)).2 ≠ 0 ∨ (fill p (outsR m ho.toNat)).1 ≠ f
    · rw [em, if_pos hx]
      repeat' (first | ((with_reducible refine D.nil ?_); refine AX.nilL ?_) | ((with_reducible refine D.load ?_); first | refine L.ldb U U U U U U ?_ | refine AX.sk U U ?_ | ((fail_if_success refine AX.wt U ?_); refine AX.gs U U (fun _ => trivial) (fun h => ?_) (fun h => ?_))) | ((with_reducible refine D.move ?_); refine L.mv U U U ?_) | ((with_reducible refine D.assign ?_); refine L.asg U U U ?_) | ((with_reducible refine D.bin ?_); refine L.bn U U U U U ?_) | ((with_reducible refine D.call ?_); first | refine L.c2 (h8) U U U U ?_ | refine L.c2 (h9) U U U U ?_ | refine AX.sk U U ?_) | ((with_reducible refine D.extract ?_); refine L.ex U U U U ?_) | ((with_reducible refine D.alloc ?_); refine L.al U U U ?_) | ((with_reducible refine D.store ?_); refine L.st U U U U U U U U U ?_) | ((with_reducible refine D.not ?_); first | refine L.nt U U U ?_ | refine AX.sk U U ?_) | ((with_reducible refine D.pick ?_); refine L.pk U U U U ?_) | ((with_reducible refine D.aw ?_); (fail_if_success with_reducible refine D.stopR (id := 26) ?_); (fail_if_success with_reducible refine D.stopS (id := 26) ?_); first | refine K.sq (AW.regL ?_) | refine K.sq (K.sq ?_) | refine AW.regL ?_ | refine AW.condT U ?_ | refine AW.condS U (fun h => ?_) (fun h => ?_) | refine AW.skip ?_ | refine AW.ret ?_) | with_reducible refine K.tN ?_ | with_reducible refine K.tR ?_ | with_reducible refine K.r1 (by with_unfolding_all rfl) (by with_unfolding_all rfl) ?_)
      all_goals first
        | rfl
        | (exfalso; simp at *; contradiction)
        | (exfalso; simp_all; done)
    · rw [em, if_neg hx]
      have hx1 : (fill p (outsR m ho.toNat)).2 = 0 := Classical.not_not.1 fun hc => hx (.inl hc)
      have hx2 : (fill p (outsR m ho.toNat)).1 = f := Classical.not_not.1 fun hc => hx (.inr hc)
      rw [hx1] at h8
      rw [decide_eq_true hx2] at h9
      cases hop : openR m ho.toNat with
      | true =>
        rw [if_pos rfl]
        repeat' (first | ((with_reducible refine D.nil ?_); refine AX.nilL ?_) | ((with_reducible refine D.load ?_); refine L.ldb U U U U U U ?_) | ((with_reducible refine D.move ?_); refine L.mv U U U ?_) | ((with_reducible refine D.assign ?_); refine L.asg U U U ?_) | ((with_reducible refine D.bin ?_); refine L.bn U U U U U ?_) | ((with_reducible refine D.call ?_); first | refine L.c2 (h8) U U U U ?_ | refine L.c2 (h9) U U U U ?_) | ((with_reducible refine D.extract ?_); refine L.ex U U U U ?_) | ((with_reducible refine D.alloc ?_); refine L.al U U U ?_) | ((with_reducible refine D.store ?_); refine L.st U U U U U U U U U ?_) | ((with_reducible refine D.not ?_); refine L.nt U U U ?_) | ((with_reducible refine D.pick ?_); refine L.pk U U U U ?_) | ((with_reducible refine D.aw ?_); first | refine K.sq (AW.regL ?_) | refine K.sq (K.sq ?_) | refine AW.regL ?_ | refine AW.condT U ?_ | refine AW.condF U ?_ | refine AW.skip ?_ | refine AW.ret ?_) | with_reducible refine K.tN ?_ | with_reducible refine K.tR ?_ | with_reducible refine K.r1 (by with_unfolding_all rfl) (by with_unfolding_all rfl) ?_)
        rfl
      | false =>
        rw [if_neg (by simp)]
        repeat' (first | ((with_reducible refine D.nil ?_); refine AX.nilL ?_) | ((with_reducible refine D.load ?_); refine L.ldb U U U U U U ?_) | ((with_reducible refine D.move ?_); refine L.mv U U U ?_) | ((with_reducible refine D.assign ?_); refine L.asg U U U ?_) | ((with_reducible refine D.bin ?_); refine L.bn U U U U U ?_) | ((with_reducible refine D.call ?_); first | refine L.c2 (h8) U U U U ?_ | refine L.c2 (h9) U U U U ?_) | ((with_reducible refine D.extract ?_); refine L.ex U U U U ?_) | ((with_reducible refine D.alloc ?_); refine L.al U U U ?_) | ((with_reducible refine D.store ?_); refine L.st U U U U U U U U U ?_) | ((with_reducible refine D.not ?_); refine L.nt U U U ?_) | ((with_reducible refine D.pick ?_); refine L.pk U U U U ?_) | ((with_reducible refine D.aw ?_); first | refine K.sq (AW.regL ?_) | refine K.sq (K.sq ?_) | refine AW.regL ?_ | refine AW.condF U ?_ | refine AW.skip ?_ | refine AW.ret ?_) | with_reducible refine K.tN ?_ | with_reducible refine K.r1 (by with_unfolding_all rfl) (by with_unfolding_all rfl) ?_)
        rfl
end Go.Ab
namespace Go.Ab
open Go Go.Proofs
set_option maxRecDepth 100000
set_option maxHeartbeats 4000000
set_option linter.all false
theorem cntTy_c : ∀ (b : Nat) (t : Ty) (most : Int), t.size ≤ b → -1000 ≤ most ∧ most ≤ 1000000000 → PC E 113 [.agg t.view, .i most] (.i (t.cn most)) := by
  intro b
  induction b with
  | zero => intro t most h; have := t.size_pos; omega
  | succ b ih =>
  intro t most hsz hm
  have hsz' := t.size_eq
  have he := Ty.cn_eq most t
  have hbd := t.cn_bd most
  refine AC.mk Tryz.func113 rfl rfl rfl rfl rfl (Nat.le_of_ble_eq_true rfl) ?_
  repeat' (first | ((with_reducible refine D.nil ?_); refine AX.nilL ?_) | ((with_reducible refine D.assign ?_); refine L.asg U U U ?_) | ((with_reducible refine D.box ?_); refine L.bx U U U U ?_) | ((with_reducible refine D.aw ?_); first | refine K.sq (AW.regL ?_) | refine K.sq (K.sq ?_) | refine AW.regL ?_) | with_reducible refine K.tN ?_)
  refine AW.block (AW.upto t.args.length (fun i => (i : Int) < Ty.cns most 1 (t.args.take i) ∧ (Ty.cns most 1 (t.args.take i) ≤ 1 ∨ Ty.cns most 1 (t.args.take i) ≤ most + 1))
    (fun i => ([(1, .i most), (2, .ptr 0 0), (5, .i (Ty.cns most 1 (t.args.take i))), (6, .i i)], ⟨1, [(0, .var t.view)]⟩))
    ⟨by simp [Ty.cns], .inl (by simp [Ty.cns])⟩ (Weak.mk [some 0] _ _ _ U U U U (by (repeat' (first | exact trivial | refine And.intro ?_ ?_ | refine ⟨_, U, _, U, ?_⟩ | exact VLe.refl _)); done) (by (repeat' (first | exact trivial | refine And.intro ?_ ?_ | refine ⟨_, U, _, U, _, U, ?_⟩ | exact VLe.refl _)); done)) fun i hi hP => ?_)
  obtain ⟨p1, p2⟩ := hP
  by_cases hlt : i < t.args.length
  · by_cases hle : Ty.cns most 1 (t.args.take i) ≤ most
    · have htk := Ty.cns_take hlt hle
      have hs2 := lsum_mem Ty.size (List.getElem_mem hlt)
      have hx := t.args[i].cn_bd (most - Ty.cns most 1 (t.args.take i))
      have hc := ih t.args[i] (most - Ty.cns most 1 (t.args.take i)) (by omega) (by omega)
      repeat' (first | ((with_reducible refine D.nil ?_); refine AX.nilL ?_) | ((with_reducible refine D.load ?_); refine L.ldb U U U U U U ?_) | ((with_reducible refine D.move ?_); first | refine L.mv U U U ?_ | refine AX.sk U U ?_ | ((fail_if_success refine AX.wt U ?_); refine AX.gs U U (fun _ => trivial) (fun h => ?_) (fun h => ?_))) | ((with_reducible refine D.fieldAddr ?_); refine L.fab U U U U U ?_) | ((with_reducible refine D.assign ?_); refine L.asg U U U ?_) | ((with_reducible refine D.bin ?_); first | refine L.bn U U U U U ?_ | refine AX.sk U U ?_) | ((with_reducible refine D.call ?_); refine L.lnt U U U U ?_) | ((with_reducible refine D.pick ?_); refine L.pk U U U U ?_) | ((with_reducible refine D.aw ?_); (fail_if_success with_reducible refine D.stopR (id := 5) ?_); (fail_if_success with_reducible refine D.stopS (id := 5) ?_); first | refine K.sq (AW.regL ?_) | refine K.sq (K.sq ?_) | refine AW.regL ?_ | refine AW.condF U ?_ | refine AW.condS U (fun h => ?_) (fun h => ?_) | refine AW.skip ?_ | refine AW.ret ?_ | refine AW.exit ?_) | with_reducible refine K.tN ?_ | with_reducible refine K.tE ?_ | with_reducible refine K.bX (by with_unfolding_all rfl) ?_ | with_reducible refine K.r1 (by with_unfolding_all rfl) (by with_unfolding_all rfl) ?_ | with_reducible refine K.uE ?_)
      all_goals first
        | (exfalso; simp at h; omega)
        | (exfalso; simp at *; omega)
        | skip
      refine K.sq (AW.block ?_)
      repeat' (first | ((with_reducible refine D.nil ?_); refine AX.nilL ?_) | ((with_reducible refine D.load ?_); first | refine L.ldb U U U U U U ?_ | refine L.lda U U U U U ?_) | ((with_reducible refine D.move ?_); refine L.mv U U U ?_) | ((with_reducible refine D.fieldAddr ?_); refine L.fab U U U U U ?_) | ((with_reducible refine D.assign ?_); refine L.asg U U U ?_) | ((with_reducible refine D.bin ?_); first | refine L.ad U U U U (by omega) ?_ | refine L.sb U U U U (by omega) ?_) | ((with_reducible refine D.call ?_); refine L.c2 (hc) U U U U ?_) | ((with_reducible refine D.indexAddr ?_); refine L.ixt _ U U U U U U U (by assumption) ?_) | ((with_reducible refine D.aw ?_); refine AW.regL ?_) | with_reducible refine K.tN ?_ | with_reducible refine K.bN ?_)
      refine ⟨hlt, (show ((i + 1 : Nat) : Int) < Ty.cns most 1 (t.args.take (i + 1)) ∧ (Ty.cns most 1 (t.args.take (i + 1)) ≤ 1 ∨ Ty.cns most 1 (t.args.take (i + 1)) ≤ most + 1) by omega), ?_⟩
      simp only [htk]
      exact (Weak.mk [some 0] _ _ _ U U U U (by (repeat' (first | exact trivial | refine And.intro ?_ ?_ | refine ⟨_, U, _, U, ?_⟩ | exact VLe.refl _)); done) (by (repeat' (first | exact trivial | refine And.intro ?_ ?_ | refine ⟨_, U, _, U, _, U, ?_⟩ | exact VLe.refl _)); done))
    · have e := Ty.cns_end hle
      repeat' (first | ((with_reducible refine D.nil ?_); refine AX.nilL ?_) | ((with_reducible refine D.load ?_); refine L.ldb U U U U U U ?_) | ((with_reducible refine D.move ?_); first | refine L.mv U U U ?_ | refine AX.sk U U ?_ | ((fail_if_success refine AX.wt U ?_); refine AX.gs U U (fun _ => trivial) (fun h => ?_) (fun h => ?_))) | ((with_reducible refine D.fieldAddr ?_); refine L.fab U U U U U ?_) | ((with_reducible refine D.assign ?_); refine L.asg U U U ?_) | ((with_reducible refine D.bin ?_); first | refine L.bn U U U U U ?_ | refine AX.sk U U ?_) | ((with_reducible refine D.call ?_); refine L.lnt U U U U ?_) | ((with_reducible refine D.pick ?_); refine L.pk U U U U ?_) | ((with_reducible refine D.aw ?_); (fail_if_success with_reducible refine D.stopR (id := 5) ?_); (fail_if_success with_reducible refine D.stopS (id := 5) ?_); first | refine K.sq (AW.regL ?_) | refine K.sq (K.sq ?_) | refine AW.regL ?_ | refine AW.condF U ?_ | refine AW.condS U (fun h => ?_) (fun h => ?_) | refine AW.skip ?_ | refine AW.ret ?_ | refine AW.exit ?_) | with_reducible refine K.tN ?_ | with_reducible refine K.tE ?_ | with_reducible refine K.bX (by with_unfolding_all rfl) ?_ | with_reducible refine K.r1 (by with_unfolding_all rfl) (by with_unfolding_all rfl) ?_ | with_reducible refine K.uE ?_)
      all_goals first
        | (exfalso; simp at *; omega)
        | (rw [he, e]; rfl)
  · have e : t.args.take i = t.args := List.take_of_length_le (by omega)
    rw [e]
    repeat' (first | ((with_reducible refine D.nil ?_); refine AX.nilL ?_) | ((with_reducible refine D.load ?_); refine L.ldb U U U U U U ?_) | ((with_reducible refine D.move ?_); first | refine L.mv U U U ?_ | refine AX.sk U U ?_ | ((fail_if_success refine AX.wt U ?_); refine AX.gs U U (fun _ => trivial) (fun h => ?_) (fun h => ?_))) | ((with_reducible refine D.fieldAddr ?_); refine L.fab U U U U U ?_) | ((with_reducible refine D.assign ?_); refine L.asg U U U ?_) | ((with_reducible refine D.bin ?_); first | refine L.bn U U U U U ?_ | refine AX.sk U U ?_) | ((with_reducible refine D.call ?_); refine L.lnt U U U U ?_) | ((with_reducible refine D.pick ?_); refine L.pk U U U U ?_) | ((with_reducible refine D.aw ?_); (fail_if_success with_reducible refine D.stopR (id := 5) ?_); (fail_if_success with_reducible refine D.stopS (id := 5) ?_); first | refine K.sq (AW.regL ?_) | refine K.sq (K.sq ?_) | refine AW.regL ?_ | refine AW.condF U ?_ | refine AW.condS U (fun h => ?_) (fun h => ?_) | refine AW.skip ?_ | refine AW.ret ?_ | refine AW.exit ?_) | with_reducible refine K.tN ?_ | with_reducible refine K.tE ?_ | with_reducible refine K.bX (by with_unfolding_all rfl) ?_ | with_reducible refine K.r1 (by with_unfolding_all rfl) (by with_unfolding_all rfl) ?_ | with_reducible refine K.uE ?_)
    all_goals first
      | (exfalso; simp at *; omega)
      | (rw [he]; rfl)
theorem cntTm_c : ∀ (b : Nat) (t : Tm) (most : Int), t.full ≤ b → -100 ≤ most ∧ most ≤ 1000000000 → PC E 55 [.agg t.view, .i most] (.i (t.cn most)) := by
  intro b
  induction b with
  | zero => intro t most h; have := t.full_pos; omega
  | succ b ih =>
  intro t most hsz hm
  have hsz' := t.full_eq
  have he := Tm.cn_eq most t
  have hbt := t.ty.cn_bd (most - 1)
  have h1 := cntTy_c _ t.ty (most - 1) (Nat.le_refl _) (by omega)
  refine AC.mk Tryz.func55 rfl rfl rfl rfl rfl (Nat.le_of_ble_eq_true rfl) ?_
  repeat' (first | ((with_reducible refine D.nil ?_); refine AX.nilL ?_) | ((with_reducible refine D.load ?_); refine L.ldb U U U U U U ?_) | ((with_reducible refine D.move ?_); refine L.mv U U U ?_) | ((with_reducible refine D.fieldAddr ?_); refine L.fab U U U U U ?_) | ((with_reducible refine D.assign ?_); refine L.asg U U U ?_) | ((with_reducible refine D.bin ?_); first | refine L.ad U U U U (by omega) ?_ | refine L.sb U U U U (by omega) ?_) | ((with_reducible refine D.call ?_); refine L.c2 (h1) U U U U ?_) | ((with_reducible refine D.box ?_); refine L.bx U U U U ?_) | ((with_reducible refine D.aw ?_); first | refine K.sq (AW.regL ?_) | refine K.sq (K.sq ?_) | refine AW.regL ?_) | with_reducible refine K.tN ?_)
  generalize hn0 : 1 + t.ty.cn (most - 1) = n0 at *
  have hn1 : 2 ≤ n0 ∧ (n0 ≤ 2 ∨ n0 ≤ most + 1) := by omega
  clear hbt h1 hn0
  refine AW.block (AW.upto t.args.length (fun i => (i : Int) < Tm.cns most n0 (t.args.take i) ∧ (Tm.cns most n0 (t.args.take i) ≤ 2 ∨ Tm.cns most n0 (t.args.take i) ≤ most + 2))
    (fun i => ([(1, .i most), (2, .ptr 0 0), (5, .i (Tm.cns most n0 (t.args.take i))), (6, .i i)], ⟨1, [(0, .var t.view)]⟩))
    ⟨by simp [Tm.cns]; omega, by simp [Tm.cns]; omega⟩ (Weak.mk [some 0] _ _ _ U U U U (by (repeat' (first | exact trivial | refine And.intro ?_ ?_ | refine ⟨_, U, _, U, ?_⟩ | exact VLe.refl _)); done) (by (repeat' (first | exact trivial | refine And.intro ?_ ?_ | refine ⟨_, U, _, U, _, U, ?_⟩ | exact VLe.refl _)); done)) fun i hi hP => ?_)
  obtain ⟨p1, p2⟩ := hP
  by_cases hlt : i < t.args.length
  · by_cases hle : Tm.cns most n0 (t.args.take i) ≤ most
    · have htk := Tm.cns_take hlt hle
      have hs2 := lsum_mem Tm.full (List.getElem_mem hlt)
      have hx := t.args[i].cn_bd (most - Tm.cns most n0 (t.args.take i))
      have hc := ih t.args[i] (most - Tm.cns most n0 (t.args.take i)) (by omega) (by omega)
      repeat' (first | ((with_reducible refine D.nil ?_); refine AX.nilL ?_) | ((with_reducible refine D.load ?_); refine L.ldb U U U U U U ?_) | ((with_reducible refine D.move ?_); first | refine L.mv U U U ?_ | refine AX.sk U U ?_ | ((fail_if_success refine AX.wt U ?_); refine AX.gs U U (fun _ => trivial) (fun h => ?_) (fun h => ?_))) | ((with_reducible refine D.fieldAddr ?_); refine L.fab U U U U U ?_) | ((with_reducible refine D.assign ?_); refine L.asg U U U ?_) | ((with_reducible refine D.bin ?_); first | refine L.bn U U U U U ?_ | refine AX.sk U U ?_) | ((with_reducible refine D.call ?_); refine L.lnt U U U U ?_) | ((with_reducible refine D.pick ?_); refine L.pk U U U U ?_) | ((with_reducible refine D.aw ?_); (fail_if_success with_reducible refine D.stopR (id := 5) ?_); (fail_if_success with_reducible refine D.stopS (id := 5) ?_); first | refine K.sq (AW.regL ?_) | refine K.sq (K.sq ?_) | refine AW.regL ?_ | refine AW.condF U ?_ | refine AW.condS U (fun h => ?_) (fun h => ?_) | refine AW.skip ?_ | refine AW.ret ?_ | refine AW.exit ?_) | with_reducible refine K.tN ?_ | with_reducible refine K.tE ?_ | with_reducible refine K.bX (by with_unfolding_all rfl) ?_ | with_reducible refine K.r1 (by with_unfolding_all rfl) (by with_unfolding_all rfl) ?_ | with_reducible refine K.uE ?_)
      all_goals first
        | (exfalso; simp at h; omega)
        | (exfalso; simp at *; omega)
        | skip
      refine K.sq (AW.block ?_)
      repeat' (first | ((with_reducible refine D.nil ?_); refine AX.nilL ?_) | ((with_reducible refine D.load ?_); first | refine L.ldb U U U U U U ?_ | refine L.lda U U U U U ?_) | ((with_reducible refine D.move ?_); refine L.mv U U U ?_) | ((with_reducible refine D.fieldAddr ?_); refine L.fab U U U U U ?_) | ((with_reducible refine D.assign ?_); refine L.asg U U U ?_) | ((with_reducible refine D.bin ?_); first | refine L.ad U U U U (by omega) ?_ | refine L.sb U U U U (by omega) ?_) | ((with_reducible refine D.call ?_); refine L.c2 (hc) U U U U ?_) | ((with_reducible refine D.indexAddr ?_); refine L.ixt _ U U U U U U U (by assumption) ?_) | ((with_reducible refine D.aw ?_); refine AW.regL ?_) | with_reducible refine K.tN ?_ | with_reducible refine K.bN ?_)
      refine ⟨hlt, (show ((i + 1 : Nat) : Int) < Tm.cns most n0 (t.args.take (i + 1)) ∧ (Tm.cns most n0 (t.args.take (i + 1)) ≤ 2 ∨ Tm.cns most n0 (t.args.take (i + 1)) ≤ most + 2) by omega), ?_⟩
      simp only [htk]
      exact (Weak.mk [some 0] _ _ _ U U U U (by (repeat' (first | exact trivial | refine And.intro ?_ ?_ | refine ⟨_, U, _, U, ?_⟩ | exact VLe.refl _)); done) (by (repeat' (first | exact trivial | refine And.intro ?_ ?_ | refine ⟨_, U, _, U, _, U, ?_⟩ | exact VLe.refl _)); done))
    · have e := Tm.cns_end hle
      repeat' (first | ((with_reducible refine D.nil ?_); refine AX.nilL ?_) | ((with_reducible refine D.load ?_); refine L.ldb U U U U U U ?_) | ((with_reducible refine D.move ?_); first | refine L.mv U U U ?_ | refine AX.sk U U ?_ | ((fail_if_success refine AX.wt U ?_); refine AX.gs U U (fun _ => trivial) (fun h => ?_) (fun h => ?_))) | ((with_reducible refine D.fieldAddr ?_); refine L.fab U U U U U ?_) | ((with_reducible refine D.assign ?_); refine L.asg U U U ?_) | ((with_reducible refine D.bin ?_); first | refine L.bn U U U U U ?_ | refine AX.sk U U ?_) | ((with_reducible refine D.call ?_); refine L.lnt U U U U ?_) | ((with_reducible refine D.pick ?_); refine L.pk U U U U ?_) | ((with_reducible refine D.aw ?_); (fail_if_success with_reducible refine D.stopR (id := 5) ?_); (fail_if_success with_reducible refine D.stopS (id := 5) ?_); first | refine K.sq (AW.regL ?_) | refine K.sq (K.sq ?_) | refine AW.regL ?_ | refine AW.condF U ?_ | refine AW.condS U (fun h => ?_) (fun h => ?_) | refine AW.skip ?_ | refine AW.ret ?_ | refine AW.exit ?_) | with_reducible refine K.tN ?_ | with_reducible refine K.tE ?_ | with_reducible refine K.bX (by with_unfolding_all rfl) ?_ | with_reducible refine K.r1 (by with_unfolding_all rfl) (by with_unfolding_all rfl) ?_ | with_reducible refine K.uE ?_)
      all_goals first
        | (exfalso; simp at *; omega)
        | (rw [he, e]; rfl)
  · have e : t.args.take i = t.args := List.take_of_length_le (by omega)
    rw [e]
    repeat' (first | ((with_reducible refine D.nil ?_); refine AX.nilL ?_) | ((with_reducible refine D.load ?_); refine L.ldb U U U U U U ?_) | ((with_reducible refine D.move ?_); first | refine L.mv U U U ?_ | refine AX.sk U U ?_ | ((fail_if_success refine AX.wt U ?_); refine AX.gs U U (fun _ => trivial) (fun h => ?_) (fun h => ?_))) | ((with_reducible refine D.fieldAddr ?_); refine L.fab U U U U U ?_) | ((with_reducible refine D.assign ?_); refine L.asg U U U ?_) | ((with_reducible refine D.bin ?_); first | refine L.bn U U U U U ?_ | refine AX.sk U U ?_) | ((with_reducible refine D.call ?_); refine L.lnt U U U U ?_) | ((with_reducible refine D.pick ?_); refine L.pk U U U U ?_) | ((with_reducible refine D.aw ?_); (fail_if_success with_reducible refine D.stopR (id := 5) ?_); (fail_if_success with_reducible refine D.stopS (id := 5) ?_); first | refine K.sq (AW.regL ?_) | refine K.sq (K.sq ?_) | refine AW.regL ?_ | refine AW.condF U ?_ | refine AW.condS U (fun h => ?_) (fun h => ?_) | refine AW.skip ?_ | refine AW.ret ?_ | refine AW.exit ?_) | with_reducible refine K.tN ?_ | with_reducible refine K.tE ?_ | with_reducible refine K.bX (by with_unfolding_all rfl) ?_ | with_reducible refine K.r1 (by with_unfolding_all rfl) (by with_unfolding_all rfl) ?_ | with_reducible refine K.uE ?_)
    all_goals first
      | (exfalso; simp at *; omega)
      | (rw [he]; rfl)
theorem cntFm_c : ∀ (b : Nat) (t : Fm) (most : Int), t.full ≤ b → -100 ≤ most ∧ most ≤ 1000000000 → PC E 56 [.agg t.view, .i most] (.i (t.cn most)) := by
  intro b
  induction b with
  | zero => intro t most h; have := t.full_pos; omega
  | succ b ih =>
  intro t most hsz hm
  have hsz' := t.full_eq
  have he := Fm.cn_eq most t
  have hbt := t.ty.cn_bd (most - 1)
  have h1 := cntTy_c _ t.ty (most - 1) (Nat.le_refl _) (by omega)
  refine AC.mk Tryz.func56 rfl rfl rfl rfl rfl (Nat.le_of_ble_eq_true rfl) ?_
  repeat' (first | ((with_reducible refine D.nil ?_); refine AX.nilL ?_) | ((with_reducible refine D.load ?_); refine L.ldb U U U U U U ?_) | ((with_reducible refine D.move ?_); refine L.mv U U U ?_) | ((with_reducible refine D.fieldAddr ?_); refine L.fab U U U U U ?_) | ((with_reducible refine D.assign ?_); refine L.asg U U U ?_) | ((with_reducible refine D.bin ?_); first | refine L.ad U U U U (by omega) ?_ | refine L.sb U U U U (by omega) ?_) | ((with_reducible refine D.call ?_); refine L.c2 (h1) U U U U ?_) | ((with_reducible refine D.box ?_); refine L.bx U U U U ?_) | ((with_reducible refine D.aw ?_); first | refine K.sq (AW.regL ?_) | refine K.sq (K.sq ?_) | refine AW.regL ?_) | with_reducible refine K.tN ?_)
  generalize hn0 : 1 + t.ty.cn (most - 1) = n0 at *
  have hn1 : 2 ≤ n0 ∧ (n0 ≤ 2 ∨ n0 ≤ most + 1) := by omega
  have hall := Tm.cns_bd most t.terms n0
  clear hbt h1 hn0
  refine AW.cutT (ι := Unit) (fun _ => ([(1, .i most), (2, .ptr 0 0), (5, .i (Tm.cns most n0 t.terms))], ⟨1, [(0, .var t.view)]⟩)) ?_ ?_
  · refine AW.block (AW.upto t.terms.length (fun i => (i : Int) < Tm.cns most n0 (t.terms.take i) ∧ (Tm.cns most n0 (t.terms.take i) ≤ 2 ∨ Tm.cns most n0 (t.terms.take i) ≤ most + 2))
      (fun i => ([(1, .i most), (2, .ptr 0 0), (5, .i (Tm.cns most n0 (t.terms.take i))), (6, .i i)], ⟨1, [(0, .var t.view)]⟩))
      ⟨by simp [Tm.cns]; omega, by simp [Tm.cns]; omega⟩ (Weak.mk [some 0] _ _ _ U U U U (by (repeat' (first | exact trivial | refine And.intro ?_ ?_ | refine ⟨_, U, _, U, ?_⟩ | exact VLe.refl _)); done) (by (repeat' (first | exact trivial | refine And.intro ?_ ?_ | refine ⟨_, U, _, U, _, U, ?_⟩ | exact VLe.refl _)); done)) fun i hi hP => ?_)
    obtain ⟨p1, p2⟩ := hP
    by_cases hlt : i < t.terms.length
    · by_cases hle : Tm.cns most n0 (t.terms.take i) ≤ most
      · have htk := Tm.cns_take hlt hle
        have hs2 := lsum_mem Tm.full (List.getElem_mem hlt)
        have hx := t.terms[i].cn_bd (most - Tm.cns most n0 (t.terms.take i))
        have hc := cntTm_c _ t.terms[i] (most - Tm.cns most n0 (t.terms.take i)) (Nat.le_refl _) (by omega)
        repeat' (first | ((with_reducible refine D.nil ?_); refine AX.nilL ?_) | ((with_reducible refine D.load ?_); refine L.ldb U U U U U U ?_) | ((with_reducible refine D.move ?_); first | refine L.mv U U U ?_ | refine AX.sk U U ?_ | ((fail_if_success refine AX.wt U ?_); refine AX.gs U U (fun _ => trivial) (fun h => ?_) (fun h => ?_))) | ((with_reducible refine D.fieldAddr ?_); refine L.fab U U U U U ?_) | ((with_reducible refine D.bin ?_); first | refine L.bn U U U U U ?_ | refine AX.sk U U ?_) | ((with_reducible refine D.call ?_); refine L.lnt U U U U ?_) | ((with_reducible refine D.pick ?_); refine L.pk U U U U ?_) | ((with_reducible refine D.aw ?_); (fail_if_success with_reducible refine D.stopR (id := 5) ?_); (fail_if_success with_reducible refine D.stopS (id := 5) ?_); first | refine K.sq (K.sq ?_) | refine AW.regL ?_ | refine AW.condF U ?_ | refine AW.condS U (fun h => ?_) (fun h => ?_) | refine AW.skip ?_ | refine AW.exit ?_) | with_reducible refine K.tN ?_ | with_reducible refine K.tE ?_ | with_reducible refine K.bX (by with_unfolding_all rfl) ?_ | with_reducible refine K.uE ?_)
        all_goals first
          | (exfalso; simp at h; omega)
          | (exfalso; simp at *; omega)
          | skip
        refine K.sq (AW.block ?_)
        repeat' (first | ((with_reducible refine D.nil ?_); refine AX.nilL ?_) | ((with_reducible refine D.load ?_); first | refine L.ldb U U U U U U ?_ | refine L.lda U U U U U ?_) | ((with_reducible refine D.move ?_); refine L.mv U U U ?_) | ((with_reducible refine D.fieldAddr ?_); refine L.fab U U U U U ?_) | ((with_reducible refine D.assign ?_); refine L.asg U U U ?_) | ((with_reducible refine D.bin ?_); first | refine L.ad U U U U (by omega) ?_ | refine L.sb U U U U (by omega) ?_) | ((with_reducible refine D.call ?_); refine L.c2 (hc) U U U U ?_) | ((with_reducible refine D.indexAddr ?_); refine L.ixt _ U U U U U U U (by assumption) ?_) | ((with_reducible refine D.aw ?_); refine AW.regL ?_) | with_reducible refine K.tN ?_ | with_reducible refine K.bN ?_)
        refine ⟨hlt, (show ((i + 1 : Nat) : Int) < Tm.cns most n0 (t.terms.take (i + 1)) ∧ (Tm.cns most n0 (t.terms.take (i + 1)) ≤ 2 ∨ Tm.cns most n0 (t.terms.take (i + 1)) ≤ most + 2) by omega), ?_⟩
        simp only [htk]
        exact (Weak.mk [some 0] _ _ _ U U U U (by (repeat' (first | exact trivial | refine And.intro ?_ ?_ | refine ⟨_, U, _, U, ?_⟩ | exact VLe.refl _)); done) (by (repeat' (first | exact trivial | refine And.intro ?_ ?_ | refine ⟨_, U, _, U, _, U, ?_⟩ | exact VLe.refl _)); done))
      · have e := Tm.cns_end hle
        rw [← e]
        repeat' (first | ((with_reducible refine D.nil ?_); refine AX.nilL ?_) | ((with_reducible refine D.load ?_); refine L.ldb U U U U U U ?_) | ((with_reducible refine D.move ?_); first | refine L.mv U U U ?_ | refine AX.sk U U ?_ | ((fail_if_success refine AX.wt U ?_); refine AX.gs U U (fun _ => trivial) (fun h => ?_) (fun h => ?_))) | ((with_reducible refine D.fieldAddr ?_); refine L.fab U U U U U ?_) | ((with_reducible refine D.bin ?_); first | refine L.bn U U U U U ?_ | refine AX.sk U U ?_) | ((with_reducible refine D.call ?_); refine L.lnt U U U U ?_) | ((with_reducible refine D.pick ?_); refine L.pk U U U U ?_) | ((with_reducible refine D.aw ?_); (fail_if_success with_reducible refine D.stopR (id := 5) ?_); (fail_if_success with_reducible refine D.stopS (id := 5) ?_); first | refine K.sq (K.sq ?_) | refine AW.regL ?_ | refine AW.condF U ?_ | refine AW.condS U (fun h => ?_) (fun h => ?_) | refine AW.skip ?_ | refine AW.exit ?_) | with_reducible refine K.tN ?_ | with_reducible refine K.tE ?_ | with_reducible refine K.bX (by with_unfolding_all rfl) ?_ | with_reducible refine K.uE ?_)
        all_goals first
          | (exfalso; simp at *; omega)
          | (exfalso; simp at *; rw [e] at *; omega)
          | exact ⟨(), (Weak.mk [some 0] _ _ _ U U U U (by (repeat' (first | exact trivial | refine And.intro ?_ ?_ | refine ⟨_, U, _, U, ?_⟩ | exact VLe.refl _)); done) (by (repeat' (first | exact trivial | refine And.intro ?_ ?_ | refine ⟨_, U, _, U, _, U, ?_⟩ | exact VLe.refl _)); done))⟩
    · have e : t.terms.take i = t.terms := List.take_of_length_le (by omega)
      rw [e]
      repeat' (first | ((with_reducible refine D.nil ?_); refine AX.nilL ?_) | ((with_reducible refine D.load ?_); refine L.ldb U U U U U U ?_) | ((with_reducible refine D.move ?_); first | refine L.mv U U U ?_ | refine AX.sk U U ?_ | ((fail_if_success refine AX.wt U ?_); refine AX.gs U U (fun _ => trivial) (fun h => ?_) (fun h => ?_))) | ((with_reducible refine D.fieldAddr ?_); refine L.fab U U U U U ?_) | ((with_reducible refine D.bin ?_); first | refine L.bn U U U U U ?_ | refine AX.sk U U ?_) | ((with_reducible refine D.call ?_); refine L.lnt U U U U ?_) | ((with_reducible refine D.pick ?_); refine L.pk U U U U ?_) | ((with_reducible refine D.aw ?_); (fail_if_success with_reducible refine D.stopR (id := 5) ?_); (fail_if_success with_reducible refine D.stopS (id := 5) ?_); first | refine K.sq (K.sq ?_) | refine AW.regL ?_ | refine AW.condF U ?_ | refine AW.condS U (fun h => ?_) (fun h => ?_) | refine AW.skip ?_ | refine AW.exit ?_) | with_reducible refine K.tN ?_ | with_reducible refine K.tE ?_ | with_reducible refine K.bX (by with_unfolding_all rfl) ?_ | with_reducible refine K.uE ?_)
      all_goals first
        | (exfalso; simp at *; omega)
        | exact ⟨(), (Weak.mk [some 0] _ _ _ U U U U (by (repeat' (first | exact trivial | refine And.intro ?_ ?_ | refine ⟨_, U, _, U, ?_⟩ | exact VLe.refl _)); done) (by (repeat' (first | exact trivial | refine And.intro ?_ ?_ | refine ⟨_, U, _, U, _, U, ?_⟩ | exact VLe.refl _)); done))⟩
  intro _
  generalize Tm.cns most n0 t.terms = n1 at *
  have hn2 : 2 ≤ n1 ∧ (n1 ≤ 2 ∨ n1 ≤ most + 2) := by omega
  clear hall hn1
  repeat' (first | ((with_reducible refine D.nil ?_); refine AX.nilL ?_) | ((with_reducible refine D.assign ?_); refine L.asg U U U ?_) | ((with_reducible refine D.aw ?_); first | refine K.sq (K.sq ?_) | refine AW.regL ?_) | with_reducible refine K.tN ?_)
  refine AW.block (AW.upto t.args.length (fun i => (i : Int) < Fm.cns most n1 (t.args.take i) ∧ (Fm.cns most n1 (t.args.take i) ≤ 2 ∨ Fm.cns most n1 (t.args.take i) ≤ most + 2))
    (fun i => ([(1, .i most), (2, .ptr 0 0), (5, .i (Fm.cns most n1 (t.args.take i))), (7, .i i)], ⟨1, [(0, .var t.view)]⟩))
    ⟨by simp [Fm.cns]; omega, by simp [Fm.cns]; omega⟩ (Weak.mk [some 0] _ _ _ U U U U (by (repeat' (first | exact trivial | refine And.intro ?_ ?_ | refine ⟨_, U, _, U, ?_⟩ | exact VLe.refl _)); done) (by (repeat' (first | exact trivial | refine And.intro ?_ ?_ | refine ⟨_, U, _, U, _, U, ?_⟩ | exact VLe.refl _)); done)) fun i hi hP => ?_)
  obtain ⟨p1, p2⟩ := hP
  by_cases hlt : i < t.args.length
  · by_cases hle : Fm.cns most n1 (t.args.take i) ≤ most
    · have htk := Fm.cns_take hlt hle
      have hs2 := lsum_mem Fm.full (List.getElem_mem hlt)
      have hx := t.args[i].cn_bd (most - Fm.cns most n1 (t.args.take i))
      have hc := ih t.args[i] (most - Fm.cns most n1 (t.args.take i)) (by omega) (by omega)
      repeat' (first | ((with_reducible refine D.nil ?_); refine AX.nilL ?_) | ((with_reducible refine D.load ?_); refine L.ldb U U U U U U ?_) | ((with_reducible refine D.move ?_); first | refine L.mv U U U ?_ | refine AX.sk U U ?_ | ((fail_if_success refine AX.wt U ?_); refine AX.gs U U (fun _ => trivial) (fun h => ?_) (fun h => ?_))) | ((with_reducible refine D.fieldAddr ?_); refine L.fab U U U U U ?_) | ((with_reducible refine D.assign ?_); refine L.asg U U U ?_) | ((with_reducible refine D.bin ?_); first | refine L.bn U U U U U ?_ | refine AX.sk U U ?_) | ((with_reducible refine D.call ?_); refine L.lnt U U U U ?_) | ((with_reducible refine D.pick ?_); refine L.pk U U U U ?_) | ((with_reducible refine D.aw ?_); (fail_if_success with_reducible refine D.stopR (id := 9) ?_); (fail_if_success with_reducible refine D.stopS (id := 9) ?_); first | refine K.sq (AW.regL ?_) | refine K.sq (K.sq ?_) | refine AW.regL ?_ | refine AW.condF U ?_ | refine AW.condS U (fun h => ?_) (fun h => ?_) | refine AW.skip ?_ | refine AW.ret ?_ | refine AW.exit ?_) | with_reducible refine K.tN ?_ | with_reducible refine K.tE ?_ | with_reducible refine K.bX (by with_unfolding_all rfl) ?_ | with_reducible refine K.r1 (by with_unfolding_all rfl) (by with_unfolding_all rfl) ?_ | with_reducible refine K.uE ?_)
      all_goals first
        | (exfalso; simp at h; omega)
        | (exfalso; simp at *; omega)
        | skip
      refine K.sq (AW.block ?_)
      repeat' (first | ((with_reducible refine D.nil ?_); refine AX.nilL ?_) | ((with_reducible refine D.load ?_); first | refine L.ldb U U U U U U ?_ | refine L.lda U U U U U ?_) | ((with_reducible refine D.move ?_); refine L.mv U U U ?_) | ((with_reducible refine D.fieldAddr ?_); refine L.fab U U U U U ?_) | ((with_reducible refine D.assign ?_); refine L.asg U U U ?_) | ((with_reducible refine D.bin ?_); first | refine L.ad U U U U (by omega) ?_ | refine L.sb U U U U (by omega) ?_) | ((with_reducible refine D.call ?_); refine L.c2 (hc) U U U U ?_) | ((with_reducible refine D.indexAddr ?_); refine L.ixt _ U U U U U U U (by assumption) ?_) | ((with_reducible refine D.aw ?_); refine AW.regL ?_) | with_reducible refine K.tN ?_ | with_reducible refine K.bN ?_)
      refine ⟨hlt, (show ((i + 1 : Nat) : Int) < Fm.cns most n1 (t.args.take (i + 1)) ∧ (Fm.cns most n1 (t.args.take (i + 1)) ≤ 2 ∨ Fm.cns most n1 (t.args.take (i + 1)) ≤ most + 2) by omega), ?_⟩
      simp only [htk]
      exact (Weak.mk [some 0] _ _ _ U U U U (by (repeat' (first | exact trivial | refine And.intro ?_ ?_ | refine ⟨_, U, _, U, ?_⟩ | exact VLe.refl _)); done) (by (repeat' (first | exact trivial | refine And.intro ?_ ?_ | refine ⟨_, U, _, U, _, U, ?_⟩ | exact VLe.refl _)); done))
    · have e := Fm.cns_end hle
      repeat' (first | ((with_reducible refine D.nil ?_); refine AX.nilL ?_) | ((with_reducible refine D.load ?_); refine L.ldb U U U U U U ?_) | ((with_reducible refine D.move ?_); first | refine L.mv U U U ?_ | refine AX.sk U U ?_ | ((fail_if_success refine AX.wt U ?_); refine AX.gs U U (fun _ => trivial) (fun h => ?_) (fun h => ?_))) | ((with_reducible refine D.fieldAddr ?_); refine L.fab U U U U U ?_) | ((with_reducible refine D.assign ?_); refine L.asg U U U ?_) | ((with_reducible refine D.bin ?_); first | refine L.bn U U U U U ?_ | refine AX.sk U U ?_) | ((with_reducible refine D.call ?_); refine L.lnt U U U U ?_) | ((with_reducible refine D.pick ?_); refine L.pk U U U U ?_) | ((with_reducible refine D.aw ?_); (fail_if_success with_reducible refine D.stopR (id := 9) ?_); (fail_if_success with_reducible refine D.stopS (id := 9) ?_); first | refine K.sq (AW.regL ?_) | refine K.sq (K.sq ?_) | refine AW.regL ?_ | refine AW.condF U ?_ | refine AW.condS U (fun h => ?_) (fun h => ?_) | refine AW.skip ?_ | refine AW.ret ?_ | refine AW.exit ?_) | with_reducible refine K.tN ?_ | with_reducible refine K.tE ?_ | with_reducible refine K.bX (by with_unfolding_all rfl) ?_ | with_reducible refine K.r1 (by with_unfolding_all rfl) (by with_unfolding_all rfl) ?_ | with_reducible refine K.uE ?_)
      all_goals first
        | (exfalso; simp at *; omega)
        | (rw [he, e]; rfl)
  · have e : t.args.take i = t.args := List.take_of_length_le (by omega)
    rw [e]
    repeat' (first | ((with_reducible refine D.nil ?_); refine AX.nilL ?_) | ((with_reducible refine D.load ?_); refine L.ldb U U U U U U ?_) | ((with_reducible refine D.move ?_); first | refine L.mv U U U ?_ | refine AX.sk U U ?_ | ((fail_if_success refine AX.wt U ?_); refine AX.gs U U (fun _ => trivial) (fun h => ?_) (fun h => ?_))) | ((with_reducible refine D.fieldAddr ?_); refine L.fab U U U U U ?_) | ((with_reducible refine D.assign ?_); refine L.asg U U U ?_) | ((with_reducible refine D.bin ?_); first | refine L.bn U U U U U ?_ | refine AX.sk U U ?_) | ((with_reducible refine D.call ?_); refine L.lnt U U U U ?_) | ((with_reducible refine D.pick ?_); refine L.pk U U U U ?_) | ((with_reducible refine D.aw ?_); (fail_if_success with_reducible refine D.stopR (id := 9) ?_); (fail_if_success with_reducible refine D.stopS (id := 9) ?_); first | refine K.sq (AW.regL ?_) | refine K.sq (K.sq ?_) | refine AW.regL ?_ | refine AW.condF U ?_ | refine AW.condS U (fun h => ?_) (fun h => ?_) | refine AW.skip ?_ | refine AW.ret ?_ | refine AW.exit ?_) | with_reducible refine K.tN ?_ | with_reducible refine K.tE ?_ | with_reducible refine K.bX (by with_unfolding_all rfl) ?_ | with_reducible refine K.r1 (by with_unfolding_all rfl) (by with_unfolding_all rfl) ?_ | with_reducible refine K.uE ?_)
    all_goals first
      | (exfalso; simp at *; omega)
      | (rw [he]; rfl)
end Go.Ab
namespace Go.Ab
open Go Go.Proofs
set_option maxRecDepth 100000
set_option maxHeartbeats 4000000
set_option linter.all false
theorem PartsR_c (qs : List (Int × Ty)) (ps : List Fm) (c : Fm) (hq : ∀ q ∈ qs, q.1 = 4 ∨ q.1 = 6) (hb : (imFs ps c).kind ≠ 4 ∧ (imFs ps c).kind ≠ 6) (h3 : c.kind ≠ 3) (hf : (quFs qs (imFs ps c)).full < 137438953472) (he : (quFs qs (imFs ps c)).err = 0) :
    PC E 22 [.agg (quFs qs (imFs ps c)).view] (.tup [.s .ty (qs.map (·.2)), .s .fm ps, .agg c.view, .i 0]) := by
  have h1 := fcheckR_c (quFs qs (imFs ps c)) (by omega)
  rw [he] at h1
  have hl := quFs_len qs (imFs ps c)
  have hl2 := imFs_len ps c
  have hcf := imFs_full ps c
  have hco := copyFm_c _ c (Nat.le_refl _) (by omega)
  refine AC.mk Tryz.func22 rfl rfl rfl rfl rfl (Nat.le_of_ble_eq_true rfl) ?_
  repeat' (first | ((with_reducible refine D.nil ?_); refine AX.nilL ?_) | ((with_reducible refine D.load ?_); refine L.ldb U U U U U U ?_) | ((with_reducible refine D.move ?_); refine L.mv U U U ?_) | ((with_reducible refine D.assign ?_); refine L.asg U U U ?_) | ((with_reducible refine D.bin ?_); refine L.bn U U U U U ?_) | ((with_reducible refine D.call ?_); refine L.c2 (h1) U U U U ?_) | ((with_reducible refine D.box ?_); refine L.bx U U U U ?_) | ((with_reducible refine D.alloc ?_); refine L.al U U U ?_) | ((with_reducible refine D.aw ?_); first | refine K.sq (AW.regL ?_) | refine K.sq (K.sq ?_) | refine AW.regL ?_ | refine AW.condF U ?_ | refine AW.skip ?_) | with_reducible refine K.tN ?_)
  refine K.sq (AW.block (AW.upto qs.length (fun m => True)
    (fun m => ([(1, .ptr 0 0), (4, .ptr 1 0), (7, .slice (.own 2) (.t .ty ((qs.take m).map (·.2))))], ⟨3, [(0, .var (quFs (qs.drop m) (imFs ps c)).view), (1, .var [.i 0, .i 0, .slice .nil (.t .ty []), .slice .nil (.t .tm []), .slice .nil (.t .fm [])]), (2, .row)]⟩))
    trivial (Weak.mk [some 0, some 1, none] _ _ _ U U U U (by (repeat' (first | exact trivial | refine And.intro ?_ ?_ | refine ⟨_, U, _, U, ?_⟩ | exact VLe.refl _)); done) (by (repeat' (first | exact trivial | exact Or.inl U | refine And.intro ?_ ?_ | refine ⟨_, U, _, U, _, U, ?_⟩ | exact VLe.refl _)); done)) fun m hm _ => ?_))
  by_cases hlt : m < qs.length
  · have e := quFs_drop (b := imFs ps c) hlt
    have hx := quFs_mem (b := imFs ps c) hlt
    have hcx := copyTy_c _ qs[m].2 (Nat.le_refl _) (by omega)
    have et : (qs.take (m + 1)).map (·.2) = (qs.take m).map (·.2) ++ [qs[m].2] := map_take (fun q : Int × Ty => q.2) qs m hlt
    have hln : ((qs.take m).map (·.2)).length ≤ qs.length := by simp; omega
    rcases hq _ (List.getElem_mem hlt) with h4 | h4
    · rw [h4] at e
      simp only [e]
      repeat' (first | ((with_reducible refine D.nil ?_); refine AX.nilL ?_) | ((with_reducible refine D.load ?_); first | refine L.ldb U U U U U U ?_ | refine L.lda U U U U U ?_ | refine AX.sk U U ?_) | ((with_reducible refine D.move ?_); refine L.mv U U U ?_) | ((with_reducible refine D.fieldAddr ?_); first | refine L.fab U U U U U ?_ | refine AX.sk U U ?_) | ((with_reducible refine D.assign ?_); refine L.asg U U U ?_) | ((with_reducible refine D.bin ?_); first | refine L.bn U U U U U ?_ | refine AX.sk U U ?_) | ((with_reducible refine D.call ?_); first | refine L.apt U U U U U U (by first | exact trivial | exact ⟨rfl, trivial⟩) U U (by first | omega | (simp; omega)) ?_ | refine L.c2 (hcx) U U U U ?_) | ((with_reducible refine D.store ?_); refine L.st U U U U U U U U U ?_) | ((with_reducible refine D.indexAddr ?_); refine L.ixt _ U U U U U U U (by (simp; done)) ?_) | ((with_reducible refine D.pick ?_); refine L.pk U U U U ?_) | ((with_reducible refine D.ax ?_); refine L.bs1 U U U U U (EC.fold_of U) U U ?_) | ((with_reducible refine D.aw ?_); first | ((with_reducible refine D.blk ?_); refine AW.block ?_) | refine K.sq (AW.regL ?_) | refine K.sq (K.sq ?_) | refine AW.regL ?_ | refine AW.condT U ?_ | refine AW.skip ?_) | with_reducible refine K.tN ?_ | with_reducible refine K.bN ?_)
      refine ⟨hlt, trivial, ?_⟩
      simp only [et]
      exact (Weak.mk [some 0, some 1, some 3] _ _ _ U U U U (by (repeat' (first | exact trivial | refine And.intro ?_ ?_ | refine ⟨_, U, _, U, ?_⟩ | exact VLe.refl _)); done) (by (repeat' (first | exact trivial | exact Or.inr ⟨_, U, rfl⟩ | refine And.intro ?_ ?_ | refine ⟨_, U, _, U, _, U, ?_⟩ | exact VLe.refl _)); done))
    · rw [h4] at e
      simp only [e]
      repeat' (first | ((with_reducible refine D.nil ?_); refine AX.nilL ?_) | ((with_reducible refine D.load ?_); first | refine L.ldb U U U U U U ?_ | refine L.lda U U U U U ?_) | ((with_reducible refine D.move ?_); refine L.mv U U U ?_) | ((with_reducible refine D.fieldAddr ?_); refine L.fab U U U U U ?_) | ((with_reducible refine D.assign ?_); refine L.asg U U U ?_) | ((with_reducible refine D.bin ?_); refine L.bn U U U U U ?_) | ((with_reducible refine D.call ?_); first | refine L.apt U U U U U U (by first | exact trivial | exact ⟨rfl, trivial⟩) U U (by first | omega | (simp; omega)) ?_ | refine L.c2 (hcx) U U U U ?_) | ((with_reducible refine D.store ?_); refine L.st U U U U U U U U U ?_) | ((with_reducible refine D.indexAddr ?_); refine L.ixt _ U U U U U U U (by (simp; done)) ?_) | ((with_reducible refine D.pick ?_); refine L.pk U U U U ?_) | ((with_reducible refine D.ax ?_); refine L.bs1 U U U U U (EC.fold_of U) U U ?_) | ((with_reducible refine D.aw ?_); first | ((with_reducible refine D.blk ?_); refine AW.block ?_) | refine K.sq (AW.regL ?_) | refine K.sq (K.sq ?_) | refine AW.regL ?_ | refine AW.condT U ?_ | refine AW.skip ?_) | with_reducible refine K.tN ?_ | with_reducible refine K.bN ?_)
      refine ⟨hlt, trivial, ?_⟩
      simp only [et]
      exact (Weak.mk [some 0, some 1, some 3] _ _ _ U U U U (by (repeat' (first | exact trivial | refine And.intro ?_ ?_ | refine ⟨_, U, _, U, ?_⟩ | exact VLe.refl _)); done) (by (repeat' (first | exact trivial | exact Or.inr ⟨_, U, rfl⟩ | refine And.intro ?_ ?_ | refine ⟨_, U, _, U, _, U, ?_⟩ | exact VLe.refl _)); done))
  · obtain rfl : m = qs.length := by omega
    simp only [List.drop_length, List.take_length, show quFs [] (imFs ps c) = imFs ps c from rfl]
    repeat' (first | ((with_reducible refine D.nil ?_); refine AX.nilL ?_) | ((with_reducible refine D.load ?_); first | refine L.ldb U U U U U U ?_ | refine AX.sk U U ?_) | ((with_reducible refine D.move ?_); refine L.mv U U U ?_) | ((with_reducible refine D.fieldAddr ?_); first | refine L.fab U U U U U ?_ | refine AX.sk U U ?_ | ((fail_if_success refine AX.wt U ?_); refine AX.gs U U (fun _ => trivial) (fun h => ?_) (fun h => ?_))) | ((with_reducible refine D.assign ?_); refine L.asg U U U ?_) | ((with_reducible refine D.bin ?_); first | refine L.bn U U U U U ?_ | refine AX.sk U U ?_) | ((with_reducible refine D.pick ?_); refine L.pk U U U U ?_) | ((with_reducible refine D.aw ?_); first | ((with_reducible refine D.blk ?_); refine AW.block ?_) | refine K.sq (AW.regL ?_) | refine K.sq (K.sq ?_) | refine AW.regL ?_ | refine AW.condT U ?_ | refine AW.condS U (fun h => ?_) (fun h => ?_) | refine AW.skip ?_ | refine AW.exit ?_) | with_reducible refine K.tN ?_ | with_reducible refine K.tE ?_ | with_reducible refine K.bX (by with_unfolding_all rfl) ?_ | with_reducible refine K.uE ?_)
    all_goals first
      | (exfalso; simp at h; first | exact hb.1 h | exact hb.2 h)
      | skip
    refine K.sq (AW.block (AW.upto ps.length (fun m => True)
      (fun m => ([(1, .ptr 0 0), (4, .ptr 1 0), (7, .slice (.own 2) (.t .ty (qs.map (·.2)))), (8, .slice (.own 3) (.t .fm (ps.take m)))], ⟨4, [(0, .var (imFs (ps.drop m) c).view), (1, .var [.i 0, .i 0, .slice .nil (.t .ty []), .slice .nil (.t .tm []), .slice .nil (.t .fm [])]), (2, .row), (3, .row)]⟩))
      trivial (Weak.mk [some 0, some 1, some 2, none] _ _ _ U U U U (by (repeat' (first | exact trivial | refine And.intro ?_ ?_ | refine ⟨_, U, _, U, ?_⟩ | exact VLe.refl _)); done) (by (repeat' (first | exact trivial | exact Or.inl U | exact Or.inr ⟨_, U, rfl⟩ | refine And.intro ?_ ?_ | refine ⟨_, U, _, U, _, U, ?_⟩ | exact VLe.refl _)); done)) fun m hm _ => ?_))
    by_cases hlt : m < ps.length
    · have e := imFs_drop (c := c) hlt
      have hx := imFs_mem (c := c) hlt
      have hcx := copyFm_c _ ps[m] (Nat.le_refl _) (by omega)
      simp only [e]
      repeat' (first | ((with_reducible refine D.nil ?_); refine AX.nilL ?_) | ((with_reducible refine D.load ?_); first | refine L.ldb U U U U U U ?_ | refine L.lda U U U U U ?_) | ((with_reducible refine D.move ?_); refine L.mv U U U ?_) | ((with_reducible refine D.fieldAddr ?_); refine L.fab U U U U U ?_) | ((with_reducible refine D.assign ?_); refine L.asg U U U ?_) | ((with_reducible refine D.bin ?_); refine L.bn U U U U U ?_) | ((with_reducible refine D.call ?_); first | refine L.apt U U U U U U (by first | exact trivial | exact ⟨rfl, trivial⟩) U U (by first | omega | (simp; omega)) ?_ | refine L.c2 (hcx) U U U U ?_) | ((with_reducible refine D.store ?_); refine L.st U U U U U U U U U ?_) | ((with_reducible refine D.indexAddr ?_); refine L.ixt _ U U U U U U U (by (simp; done)) ?_) | ((with_reducible refine D.ax ?_); refine L.bs1 U U U U U (EC.fold_of U) U U ?_) | ((with_reducible refine D.aw ?_); first | ((with_reducible refine D.blk ?_); refine AW.block ?_) | refine K.sq (AW.regL ?_) | refine K.sq (K.sq ?_) | refine AW.regL ?_ | refine AW.condT U ?_ | refine AW.skip ?_) | with_reducible refine K.tN ?_ | with_reducible refine K.bN ?_)
      exact ⟨hlt, trivial, (Weak.mk [some 0, some 1, some 2, some 4] _ _ _ U U U U (by (repeat' (first | exact trivial | refine And.intro ?_ ?_ | refine ⟨_, U, _, U, ?_⟩ | exact VLe.refl _ | exact VLe.of_eq (by simp [Sto.upd, List.take_append_getElem]))); done) (by (repeat' (first | exact trivial | exact Or.inr ⟨_, U, rfl⟩ | refine And.intro ?_ ?_ | refine ⟨_, U, _, U, _, U, ?_⟩ | exact VLe.refl _)); done))⟩
    · obtain rfl : m = ps.length := by omega
      simp only [List.drop_length, List.take_length, show imFs [] c = c from rfl]
      repeat' (first | ((with_reducible refine D.nil ?_); refine AX.nilL ?_) | ((with_reducible refine D.load ?_); first | refine L.ldb U U U U U U ?_ | refine L.lda U U U U U ?_) | ((with_reducible refine D.move ?_); refine L.mv U U U ?_) | ((with_reducible refine D.fieldAddr ?_); refine L.fab U U U U U ?_) | ((with_reducible refine D.assign ?_); refine L.asg U U U ?_) | ((with_reducible refine D.bin ?_); refine L.bn U U U U U ?_) | ((with_reducible refine D.call ?_); refine L.c2 (hco) U U U U ?_) | ((with_reducible refine D.store ?_); refine L.st U U U U U U U U U ?_) | ((with_reducible refine D.indexAddr ?_); refine L.ixt _ U U U U U U U (by (simp at *; omega)) ?_) | ((with_reducible refine D.aw ?_); first | ((with_reducible refine D.blk ?_); refine AW.block ?_) | refine K.sq (AW.regL ?_) | refine K.sq (K.sq ?_) | refine AW.regL ?_ | refine AW.condS U (fun h => ?_) (fun h => ?_) | refine AW.skip ?_ | refine AW.ret ?_ | refine AW.exit ?_) | with_reducible refine K.tN ?_ | with_reducible refine K.tE ?_ | with_reducible refine K.bX (by with_unfolding_all rfl) ?_ | with_reducible refine K.r1 (by with_unfolding_all rfl) (by with_unfolding_all rfl) ?_ | with_reducible refine K.uE ?_)
      · exfalso; simp at h; exact h3 h
      · rfl
theorem PartsRE_c (f : Fm) (hf : f.full < 137438953472) (he : f.err ≠ 0) : PC E 22 [.agg f.view] (.tup [.s .ty [], .s .fm [], .agg noFm.view, .i f.err]) := by
  have h1 := fcheckR_c f (by omega)
  refine AC.mk Tryz.func22 rfl rfl rfl rfl rfl (Nat.le_of_ble_eq_true rfl) ?_
  repeat' (first | ((with_reducible refine D.nil ?_); refine AX.nilL ?_) | ((with_reducible refine D.load ?_); refine L.ldb U U U U U U ?_) | ((with_reducible refine D.move ?_); refine L.mv U U U ?_) | ((with_reducible refine D.assign ?_); refine L.asg U U U ?_) | ((with_reducible refine D.bin ?_); refine L.bn U U U U U ?_) | ((with_reducible refine D.call ?_); refine L.c2 (h1) U U U U ?_) | ((with_reducible refine D.box ?_); refine L.bx U U U U ?_) | ((with_reducible refine D.alloc ?_); refine L.al U U U ?_) | ((with_reducible refine D.store ?_); refine L.st U U U U U U U U U ?_) | ((with_reducible refine D.ax ?_); refine L.bd U U U U U ?_) | ((with_reducible refine D.aw ?_); (fail_if_success with_reducible refine D.stopR (id := 4) ?_); (fail_if_success with_reducible refine D.stopS (id := 4) ?_); first | refine K.sq (AW.regL ?_) | refine K.sq (K.sq ?_) | refine AW.regL ?_ | refine AW.condS U (fun h => ?_) (fun h => ?_) | refine AW.skip ?_ | refine AW.ret ?_) | with_reducible refine K.tN ?_ | with_reducible refine K.tR ?_ | with_reducible refine K.r1 (by with_unfolding_all rfl) (by with_unfolding_all rfl) ?_)
  all_goals first
    | rfl
    | (exfalso; simp at h; exact he h)
theorem PartsE_c (f : Fm) (hf : f.full < 137438953472) (he : f.err ≠ 0) : PC E 21 [.agg f.view] (.tup [.s .ty [], .s .fm [], .agg noFm.view, .i f.err]) := by
  have h1 := fcheck_c f (by omega)
  refine AC.mk Tryz.func21 rfl rfl rfl rfl rfl (Nat.le_of_ble_eq_true rfl) ?_
  repeat' (first | ((with_reducible refine D.nil ?_); refine AX.nilL ?_) | ((with_reducible refine D.load ?_); refine L.ldb U U U U U U ?_) | ((with_reducible refine D.move ?_); refine L.mv U U U ?_) | ((with_reducible refine D.assign ?_); refine L.asg U U U ?_) | ((with_reducible refine D.bin ?_); refine L.bn U U U U U ?_) | ((with_reducible refine D.call ?_); refine L.c2 (h1) U U U U ?_) | ((with_reducible refine D.box ?_); refine L.bx U U U U ?_) | ((with_reducible refine D.alloc ?_); refine L.al U U U ?_) | ((with_reducible refine D.store ?_); refine L.st U U U U U U U U U ?_) | ((with_reducible refine D.ax ?_); refine L.bd U U U U U ?_) | ((with_reducible refine D.aw ?_); (fail_if_success with_reducible refine D.stopR (id := 4) ?_); (fail_if_success with_reducible refine D.stopS (id := 4) ?_); first | refine K.sq (AW.regL ?_) | refine K.sq (K.sq ?_) | refine AW.regL ?_ | refine AW.condS U (fun h => ?_) (fun h => ?_) | refine AW.skip ?_ | refine AW.ret ?_) | with_reducible refine K.tN ?_ | with_reducible refine K.tR ?_ | with_reducible refine K.r1 (by with_unfolding_all rfl) (by with_unfolding_all rfl) ?_)
  all_goals first
    | rfl
    | (exfalso; simp at h; exact he h)
theorem sameAllTy_r (l : List Ty) (h : (l.map Ty.size).sum < 1099511627776) : PC E 23 [.s .ty l, .s .ty l] (.bool true) := by
  have hlen := lsum_len Ty.size Ty.size_pos l
  refine AC.mk Tryz.func23 rfl rfl rfl rfl rfl (Nat.le_of_ble_eq_true rfl) ?_
  repeat' (first | ((with_reducible refine D.nil ?_); refine AX.nilL ?_) | ((with_reducible refine D.move ?_); refine L.mv U U U ?_) | ((with_reducible refine D.assign ?_); refine L.asg U U U ?_) | ((with_reducible refine D.bin ?_); refine L.bn U U U U U ?_) | ((with_reducible refine D.call ?_); refine L.lnt U U U U ?_) | ((with_reducible refine D.aw ?_); first | refine K.sq (AW.regL ?_) | refine K.sq (K.sq ?_) | refine AW.regL ?_ | refine AW.condS U (fun h => ?_) (fun h => ?_) | refine AW.skip ?_ | refine AW.ret ?_) | with_reducible refine K.tN ?_ | with_reducible refine K.tR ?_ | with_reducible refine K.r1 (by with_unfolding_all rfl) (by with_unfolding_all rfl) ?_)
  · exfalso; simp at h
  refine AW.range l.length (fun m => True) (fun m => ([(0, .s .ty l), (1, .s .ty l), (11, .s .ty l), (12, .i l.length), (13, .i m)], ⟨0, []⟩))
    (by omega) (fun m => rfl) (fun m => rfl) U trivial (Weak.mk [] _ _ _ U U U U (by (repeat' (first | exact trivial | refine And.intro ?_ ?_ | refine ⟨_, U, _, U, ?_⟩ | exact VLe.refl _)); done) (by (repeat' (first | exact trivial)); done)) ?_ ?_
  · intro m hm _
    have hs2 := lsum_mem Ty.size (List.getElem_mem hm)
    have hc := sameTy_r l[m] (by omega)
    repeat' (first | ((with_reducible refine D.nil ?_); first | refine AX.nilL ?_ | refine AX.nilD (by kernel_rfl) ?_) | ((with_reducible refine D.load ?_); refine L.lda U U U U U ?_) | ((with_reducible refine D.move ?_); refine L.mv U U U ?_) | ((with_reducible refine D.assign ?_); refine L.asg U U U ?_) | ((with_reducible refine D.call ?_); refine L.c2 (hc) U U U U ?_) | ((with_reducible refine D.indexAddr ?_); refine L.ixt _ U U U U U U U (by assumption) ?_) | ((with_reducible refine D.not ?_); refine L.nt U U U ?_) | ((with_reducible refine D.aw ?_); first | refine K.sq (AW.regL ?_) | refine K.sq (AW.regD mixed (by kernel_rfl) ?_) | refine AW.condF U ?_ | refine AW.skip ?_) | with_reducible refine K.tN ?_ | with_reducible refine K.bN ?_)
    exact ⟨rfl, trivial, (Weak.mk [] _ _ _ U U U U (by (repeat' (first | exact trivial | refine And.intro ?_ ?_ | refine ⟨_, U, _, U, ?_⟩ | exact VLe.refl _)); done) (by (repeat' (first | exact trivial)); done))⟩
  · intro _
    repeat' (first | ((with_reducible refine D.nil ?_); refine AX.nilL ?_) | ((with_reducible refine D.assign ?_); refine L.asg U U U ?_) | ((with_reducible refine D.aw ?_); first | refine K.sq (AW.regL ?_) | refine AW.ret ?_) | with_reducible refine K.tN ?_ | with_reducible refine K.r1 (by with_unfolding_all rfl) (by with_unfolding_all rfl) ?_)
    rfl
theorem sameAllFm_r (l : List Fm) (h : (l.map Fm.full).sum < 1099511627776) : PC E 24 [.s .fm l, .s .fm l] (.bool true) := by
  have hlen := lsum_len Fm.full Fm.full_pos l
  refine AC.mk Tryz.func24 rfl rfl rfl rfl rfl (Nat.le_of_ble_eq_true rfl) ?_
  repeat' (first | ((with_reducible refine D.nil ?_); refine AX.nilL ?_) | ((with_reducible refine D.move ?_); refine L.mv U U U ?_) | ((with_reducible refine D.assign ?_); refine L.asg U U U ?_) | ((with_reducible refine D.bin ?_); refine L.bn U U U U U ?_) | ((with_reducible refine D.call ?_); refine L.lnt U U U U ?_) | ((with_reducible refine D.aw ?_); first | refine K.sq (AW.regL ?_) | refine K.sq (K.sq ?_) | refine AW.regL ?_ | refine AW.condS U (fun h => ?_) (fun h => ?_) | refine AW.skip ?_ | refine AW.ret ?_) | with_reducible refine K.tN ?_ | with_reducible refine K.tR ?_ | with_reducible refine K.r1 (by with_unfolding_all rfl) (by with_unfolding_all rfl) ?_)
  · exfalso; simp at h
  refine AW.range l.length (fun m => True) (fun m => ([(0, .s .fm l), (1, .s .fm l), (11, .s .fm l), (12, .i l.length), (13, .i m)], ⟨0, []⟩))
    (by omega) (fun m => rfl) (fun m => rfl) U trivial (Weak.mk [] _ _ _ U U U U (by (repeat' (first | exact trivial | refine And.intro ?_ ?_ | refine ⟨_, U, _, U, ?_⟩ | exact VLe.refl _)); done) (by (repeat' (first | exact trivial)); done)) ?_ ?_
  · intro m hm _
    have hs2 := lsum_mem Fm.full (List.getElem_mem hm)
    have hc := sameFm_r _ l[m] (Nat.le_refl _) (by omega)
    repeat' (first | ((with_reducible refine D.nil ?_); first | refine AX.nilL ?_ | refine AX.nilD (by kernel_rfl) ?_) | ((with_reducible refine D.load ?_); refine L.lda U U U U U ?_) | ((with_reducible refine D.move ?_); refine L.mv U U U ?_) | ((with_reducible refine D.assign ?_); refine L.asg U U U ?_) | ((with_reducible refine D.call ?_); refine L.c2 (hc) U U U U ?_) | ((with_reducible refine D.indexAddr ?_); refine L.ixt _ U U U U U U U (by assumption) ?_) | ((with_reducible refine D.not ?_); refine L.nt U U U ?_) | ((with_reducible refine D.aw ?_); first | refine K.sq (AW.regL ?_) | refine K.sq (AW.regD mixed (by kernel_rfl) ?_) | refine AW.condF U ?_ | refine AW.skip ?_) | with_reducible refine K.tN ?_ | with_reducible refine K.bN ?_)
    exact ⟨rfl, trivial, (Weak.mk [] _ _ _ U U U U (by (repeat' (first | exact trivial | refine And.intro ?_ ?_ | refine ⟨_, U, _, U, ?_⟩ | exact VLe.refl _)); done) (by (repeat' (first | exact trivial)); done))⟩
  · intro _
    repeat' (first | ((with_reducible refine D.nil ?_); refine AX.nilL ?_) | ((with_reducible refine D.assign ?_); refine L.asg U U U ?_) | ((with_reducible refine D.aw ?_); first | refine K.sq (AW.regL ?_) | refine AW.ret ?_) | with_reducible refine K.tN ?_ | with_reducible refine K.r1 (by with_unfolding_all rfl) (by with_unfolding_all rfl) ?_)
    rfl
theorem terms18_c (t : Tm) : PC E 16 [.agg t.view] (.i (t.cn 20000)) := by
  have h1 := cntTm_c _ t 20000 (Nat.le_refl _) (by omega)
  refine AC.mk Tryz.func16 rfl rfl rfl rfl rfl (Nat.le_of_ble_eq_true rfl) ?_
  repeat' (first | ((with_reducible refine D.nil ?_); refine AX.nilL ?_) | ((with_reducible refine D.load ?_); refine L.ldb U U U U U U ?_) | ((with_reducible refine D.assign ?_); refine L.asg U U U ?_) | ((with_reducible refine D.call ?_); refine L.c2 (h1) U U U U ?_) | ((with_reducible refine D.box ?_); refine L.bx U U U U ?_) | ((with_reducible refine D.aw ?_); first | refine K.sq (AW.regL ?_) | refine AW.ret ?_) | with_reducible refine K.tN ?_ | with_reducible refine K.r1 (by with_unfolding_all rfl) (by with_unfolding_all rfl) ?_)
  rfl
theorem forms18_c (t : Fm) : PC E 17 [.agg t.view] (.i (t.cn 20000)) := by
  have h1 := cntFm_c _ t 20000 (Nat.le_refl _) (by omega)
  refine AC.mk Tryz.func17 rfl rfl rfl rfl rfl (Nat.le_of_ble_eq_true rfl) ?_
  repeat' (first | ((with_reducible refine D.nil ?_); refine AX.nilL ?_) | ((with_reducible refine D.load ?_); refine L.ldb U U U U U U ?_) | ((with_reducible refine D.assign ?_); refine L.asg U U U ?_) | ((with_reducible refine D.call ?_); refine L.c2 (h1) U U U U ?_) | ((with_reducible refine D.box ?_); refine L.bx U U U U ?_) | ((with_reducible refine D.aw ?_); first | refine K.sq (AW.regL ?_) | refine AW.ret ?_) | with_reducible refine K.tN ?_ | with_reducible refine K.r1 (by with_unfolding_all rfl) (by with_unfolding_all rfl) ?_)
  rfl
end Go.Ab
namespace Go.Ab
open Go Go.Proofs
set_option maxRecDepth 100000
set_option maxHeartbeats 4000000
set_option linter.all false
theorem sane18_c : PC E 6 [] (.bool true) := by
  have hm : matchF (eqF (.mk 1 0 (.mk 0 []) []) (numOf 0)) 1 (eqF (.mk 5 0 (.mk 0 []) [.mk 1 3 (.mk 0 []) []]) (numOf 0)) = ([.mk 5 0 (.mk 0 []) [.mk 1 3 (.mk 0 []) []]], 0) := by decide
  have hc := match_c (eqF (.mk 1 0 (.mk 0 []) []) (numOf 0)) (eqF (.mk 5 0 (.mk 0 []) [.mk 1 3 (.mk 0 []) []]) (numOf 0)) 1 (by decide) (by decide)
  rw [hm] at hc
  have h1 := eqFm_c (.mk 1 0 (.mk 0 []) []) (numOf 0) (by decide) (by decide)
  have h2 := eqFm_c (.mk 5 0 (.mk 0 []) [.mk 1 3 (.mk 0 []) []]) (numOf 0) (by decide) (by decide)
  have h3 := n_c 5 [.mk 1 3 (.mk 0 []) []] (by decide)
  have h4 := sameTm_c _ (.mk 5 0 (.mk 0 []) [.mk 1 3 (.mk 0 []) []]) (.mk 5 0 (.mk 0 []) [.mk 1 3 (.mk 0 []) []]) (Nat.le_refl _) (by decide)
  refine AC.mk Tryz.func6 rfl rfl rfl rfl rfl (Nat.le_of_ble_eq_true rfl) ?_
  repeat' (first | ((with_reducible refine D.nil ?_); first | refine AX.nilL ?_ | refine AX.nilD (by kernel_rfl) ?_) | ((with_reducible refine D.load ?_); first | refine L.ldb U U U U U U ?_ | refine L.lda U U U U U ?_ | refine AX.sk U U ?_ | ((fail_if_success refine AX.wt U ?_); refine AX.gs U U (fun _ => trivial) (fun h => ?_) (fun h => ?_))) | ((with_reducible refine D.move ?_); first | refine L.mv U U U ?_ | refine AX.sk U U ?_ | ((fail_if_success refine AX.wt U ?_); refine AX.gs U U (fun _ => trivial) (fun h => ?_) (fun h => ?_))) | ((with_reducible refine D.fieldAddr ?_); first | refine L.fab U U U U U ?_ | refine L.faa U U U U U U ?_ | refine AX.sk U U ?_ | ((fail_if_success refine AX.wt U ?_); refine AX.gs U U (fun _ => trivial) (fun h => ?_) (fun h => ?_))) | ((with_reducible refine D.assign ?_); first | refine L.asg U U U ?_ | refine AX.sk U U ?_ | ((fail_if_success refine AX.wt U ?_); refine AX.gs U U (fun _ => trivial) (fun h => ?_) (fun h => ?_))) | ((with_reducible refine D.bin ?_); first | refine L.ad U U U U (by omega) ?_ | refine L.sb U U U U (by omega) ?_ | refine L.ml U U U U (by first | omega | assumption) ?_ | refine L.rm U U U U (by omega) ?_ | refine L.bn U U U U U ?_ | refine AX.sk U U ?_ | ((fail_if_success refine AX.wt U ?_); refine AX.gs U U (fun _ => trivial) (fun h => ?_) (fun h => ?_)) | refine L.be U U U U U ?_ | refine L.bnq U U U U U ?_) | ((with_reducible refine D.call ?_); first | refine L.lnt U U U U ?_ | refine L.ln U U U U ?_ | refine L.apt U U U U U U (by first | exact trivial | exact ⟨rfl, trivial⟩) U U (by first | omega | (simp; omega)) ?_ | refine L.aptF U U U U (by first | assumption | simp) U U U (by first | omega | (simp; omega)) ?_ | refine L.c2 (var_c _) U U U U ?_ | refine L.c2 (num_c 0) U U U U ?_ | refine L.c2 (h1) U U U U ?_ | refine L.c2 (h2) U U U U ?_ | refine L.c2 (h3) U U U U ?_ | refine L.c2 (hc) U U U U ?_ | refine L.c2 (h4) U U U U ?_ | refine AX.sk U U ?_ | ((fail_if_success refine AX.wt U ?_); refine AX.gs U U (fun _ => trivial) (fun h => ?_) (fun h => ?_)) | refine L.apE U U U U U U U ?_ | refine L.lnm U U U U U ?_) | ((with_reducible refine D.extract ?_); first | refine L.ex U U U U ?_ | refine AX.sk U U ?_ | ((fail_if_success refine AX.wt U ?_); refine AX.gs U U (fun _ => trivial) (fun h => ?_) (fun h => ?_))) | ((with_reducible refine D.box ?_); first | refine L.bx U U U U ?_ | refine AX.sk U U ?_ | ((fail_if_success refine AX.wt U ?_); refine AX.gs U U (fun _ => trivial) (fun h => ?_) (fun h => ?_))) | ((with_reducible refine D.alloc ?_); first | refine L.al U U U ?_ | refine AX.sk U U ?_ | ((fail_if_success refine AX.wt U ?_); refine AX.gs U U (fun _ => trivial) (fun h => ?_) (fun h => ?_))) | ((with_reducible refine D.store ?_); first | refine L.st U U U U U U U U U ?_ | refine AX.sk U U ?_ | ((fail_if_success refine AX.wt U ?_); refine AX.gs U U (fun _ => trivial) (fun h => ?_) (fun h => ?_))) | ((with_reducible refine D.indexAddr ?_); first | refine L.ixt _ U U U U U U U (by first | assumption | omega | (simp only [Ty.args_mk, Tm.args_mk, List.length_cons, List.length_nil, List.getElem_cons_zero, List.getElem_cons_succ]; omega) | (simp at *; omega) | (simp; done)) ?_ | refine L.ixt 0 U U U U U U U (by first | assumption | omega | (simp only [Ty.args_mk, Tm.args_mk, List.length_cons, List.length_nil, List.getElem_cons_zero, List.getElem_cons_succ]; omega) | (simp at *; omega) | (simp; done)) ?_ | refine L.ixt 1 U U U U U U U (by first | assumption | omega | (simp only [Ty.args_mk, Tm.args_mk, List.length_cons, List.length_nil, List.getElem_cons_zero, List.getElem_cons_succ]; omega) | (simp at *; omega) | (simp; done)) ?_ | refine L.ixt 2 U U U U U U U (by first | assumption | omega | (simp only [Ty.args_mk, Tm.args_mk, List.length_cons, List.length_nil, List.getElem_cons_zero, List.getElem_cons_succ]; omega) | (simp at *; omega) | (simp; done)) ?_ | refine AX.sk U U ?_ | ((fail_if_success refine AX.wt U ?_); refine AX.gs U U (fun _ => trivial) (fun h => ?_) (fun h => ?_)) | refine L.ixb 0 U U U U U (by decide) U ?_ | refine L.ixb 1 U U U U U (by decide) U ?_ | refine L.ixb 2 U U U U U (by decide) U ?_) | ((with_reducible refine D.not ?_); first | refine L.nt U U U ?_ | refine AX.sk U U ?_ | ((fail_if_success refine AX.wt U ?_); refine AX.gs U U (fun _ => trivial) (fun h => ?_) (fun h => ?_))) | ((with_reducible refine D.field ?_); first | refine L.fd U U U U U U ?_ | refine AX.sk U U ?_ | ((fail_if_success refine AX.wt U ?_); refine AX.gs U U (fun _ => trivial) (fun h => ?_) (fun h => ?_))) | ((with_reducible refine D.pick ?_); first | refine L.pk U U U U ?_ | refine AX.sk U U ?_ | ((fail_if_success refine AX.wt U ?_); refine AX.gs U U (fun _ => trivial) (fun h => ?_) (fun h => ?_))) | ((with_reducible refine D.ax ?_); first | refine L.nc U U U U ?_ | refine L.bd U U U U U ?_ | refine L.bs1 U U U U U (EC.fold_of U) U U ?_ | refine L.bs1 U U U U U U U U ?_ | refine L.bs2 U U U U U (EC.fold_of U) U U U (EC.fold_of U) U U ?_ | refine L.bs2 U U U U U U U U U U U U ?_ | refine L.bs3 U U U U U (EC.fold_of U) U U U (EC.fold_of U) U U U (EC.fold_of U) U U ?_ | refine L.bs3 U U U U U U U U U U U U U U U U ?_ | refine L.bs 0 U U U U U U U U U U ?_ | refine L.mf U U U U ?_ | refine L.s3 U U U U U U ?_ | refine AX.sk U U ?_ | ((fail_if_success refine AX.wt U ?_); refine AX.gs U U (fun _ => trivial) (fun h => ?_) (fun h => ?_)) | refine L.sl U U U U U U U (by first | omega | (simp only [List.length_cons, List.length_nil]; omega) | (simp; omega) | simp) ?_ | refine L.cvi U U U U U (by omega) ?_ | refine L.mmT U U U U U ?_ | refine L.mmB U U U U U ?_ | refine L.lkuT U U U U U U (by first | assumption | rfl) (by first | assumption | rfl) U ?_ | refine L.lkn U U U U U U (by first | assumption | rfl) U U U ?_ | refine L.muT U U U U U U (EC.fold_of U) U U ?_ | refine L.muT U U U U U U U U U ?_ | refine L.muB U U U U U U U U ?_) | ((with_reducible refine D.aw ?_); first | ((with_reducible refine D.sblk ?_); refine K.sq (AW.block ?_)) | ((with_reducible refine D.blk ?_); refine AW.block ?_) | refine K.sq (AW.regL ?_) | refine K.sq (AW.regD mixed (by kernel_rfl) ?_) | refine K.sq (K.sq ?_) | refine AW.regL ?_ | refine AW.regD mixed (by kernel_rfl) ?_ | refine K.sq (AW.condT U ?_) | refine K.sq (AW.condF U ?_) | refine AW.condT U ?_ | refine AW.condF U ?_ | refine K.sq (AW.condS U (fun h => ?_) (fun h => ?_)) | refine AW.condS U (fun h => ?_) (fun h => ?_) | refine AW.skip ?_ | refine AW.ret ?_ | refine AW.exit ?_ | refine K.sq (AW.label ?_) | refine AW.label ?_ | refine AW.goto ?_) | with_reducible refine K.tN ?_ | with_reducible refine K.bN ?_ | with_reducible refine K.tR ?_ | with_reducible refine K.bR ?_ | with_reducible refine K.gR ?_ | with_reducible refine K.dR ?_ | with_reducible refine K.cR ?_ | with_reducible refine K.lR ?_ | with_reducible refine K.tE ?_ | with_reducible refine K.bX (by with_unfolding_all rfl) ?_ | with_reducible refine K.bO (by with_unfolding_all rfl) ?_ | with_reducible refine K.gE (by with_unfolding_all rfl) ?_ | with_reducible refine K.gO (by with_unfolding_all rfl) ?_ | with_reducible refine K.cE ?_ | with_reducible refine K.lE ?_ | with_reducible refine K.r1 (by with_unfolding_all rfl) (by with_unfolding_all rfl) ?_ | with_reducible refine K.n1 (by with_unfolding_all rfl) (by with_unfolding_all rfl) ?_ | ((with_reducible show @LE.le Nat _ _ _); omega) | ((with_reducible show @LT.lt Nat _ _ _); omega) | with_reducible refine K.hR ?_ | with_reducible refine K.tG ?_ | with_reducible refine K.bG ?_ | with_reducible refine K.fR ?_ | with_reducible refine K.pR ?_)
  all_goals rfl
end Go.Ab
namespace Go.Ab
open Go Go.Proofs
set_option maxRecDepth 100000
set_option maxHeartbeats 4000000
set_option linter.all false
def Dk.pt (d : Dk) : List Ty × List Tm × Dk := Dk.pat d.ctx.1 (d.ctx.2.next 4).2 (d.ctx.2.next 4).1.toNat
theorem pattern_c (d : Dk) (hd : d.ok) : AC E 9 [.ptr 0 0] ⟨1, [(0, .var d.cells)]⟩ (.tup [.s .ty d.ctx.1, .agg (Dk.fm 2 d.pt.2.2 d.pt.1).1.view, .s .tm d.pt.2.1]) ⟨1, [(0, .var (Dk.fm 2 d.pt.2.2 d.pt.1).2.cells)]⟩ := by
  have hcx := context_c d hd
  have hg := Dk.ctx_smalls d
  have hgl := Dk.ctx_len d
  have d1 := Dk.ctx_ok hd
  have hn := next_c d.ctx.2 4 d1 (by omega)
  have hb := Dk.next_bd d.ctx.2 4 (by omega)
  have d2 := Dk.next_ok d1 4
  have hpt : d.pt = Dk.pat d.ctx.1 (d.ctx.2.next 4).2 (d.ctx.2.next 4).1.toNat := rfl
  generalize d.ctx.1 = g at *
  generalize d.ctx.2 = D1 at *
  obtain ⟨c, hc⟩ : ∃ c : Nat, (D1.next 4).1 = c := ⟨(D1.next 4).1.toNat, by omega⟩
  rw [hc] at hn hb hpt
  generalize (D1.next 4).2 = D2 at *
  simp only [Int.toNat_natCast] at hpt
  rw [hpt]
  refine AC.mk Tryz.func9 rfl rfl rfl rfl rfl (Nat.le_of_ble_eq_true rfl) ?_
  repeat' (first | ((with_reducible refine D.nil ?_); refine AX.nilL ?_) | ((with_reducible refine D.move ?_); refine L.mv U U U ?_) | ((with_reducible refine D.assign ?_); refine L.asg U U U ?_) | ((with_reducible refine D.call ?_); first | refine L.apt U U U U U U (by first | exact trivial | exact ⟨rfl, trivial⟩) U U (by first | omega | (simp; omega)) ?_ | (apply L.cb2 (hcx) [0] 0 rfl; rfl; rfl; rfl; rfl; rfl; rfl; (focus ((repeat' (first | exact trivial | refine And.intro ?_ ?_ | refine ⟨_, U, _, U, _, U, ?_⟩ | exact VLe.refl _)); done)); rfl; rfl; rfl; rfl) | (apply L.cb2 (hn) [0] 0 rfl; rfl; rfl; rfl; rfl; rfl; rfl; (focus ((repeat' (first | exact trivial | refine And.intro ?_ ?_ | refine ⟨_, U, _, U, _, U, ?_⟩ | exact VLe.refl _)); done)); rfl; rfl; rfl; rfl)) | ((with_reducible refine D.alloc ?_); refine L.al U U U ?_) | ((with_reducible refine D.aw ?_); first | refine K.sq (AW.regL ?_) | refine K.sq (K.sq ?_) | refine AW.regL ?_) | with_reducible refine K.tN ?_)
  refine AW.down c (fun m => m ≤ c)
    (fun m => ([(0, .ptr 0 0), (3, .ptr 1 0), (5, .s .ty g), (6, .slice (.own 2) (.t .ty (Dk.pat g D2 (c - m)).1)), (7, .s .tm (Dk.pat g D2 (c - m)).2.1), (8, .i m)], ⟨3, [(0, .var (Dk.pat g D2 (c - m)).2.2.cells), (1, .var [.i 0, .i 0, .slice .nil (.t .ty []), .slice .nil (.t .tm []), .slice .nil (.t .fm [])]), (2, .row)]⟩))
    (by omega) (fun m => rfl) rfl (Nat.le_refl _) ?_ ?_ ?_
  · simp only [Nat.sub_self]
    exact (Weak.mk [some 0, some 1, some 2] _ _ _ U U U U (by (repeat' (first | exact trivial | refine And.intro ?_ ?_ | refine ⟨_, U, _, U, ?_⟩ | exact VLe.refl _ | exact VLe.any _ _)); done) (by (repeat' (first | exact trivial | exact Or.inr ⟨_, U, rfl⟩ | refine And.intro ?_ ?_ | refine ⟨_, U, _, U, _, U, ?_⟩ | exact VLe.refl _)); done))
  · intro m hm hP
    have e1 : (Dk.pat g D2 (c - m)).1 = (Dk.pat g D2 (c - (m + 1))).1 ++ [((Dk.pat g D2 (c - (m + 1))).2.2.type 0).1] := by rw [show c - m = c - (m + 1) + 1 by omega]; rfl
    have e2 : (Dk.pat g D2 (c - m)).2.1 = (Dk.tm 4 ((Dk.pat g D2 (c - (m + 1))).2.2.type 0).2 g ((Dk.pat g D2 (c - (m + 1))).2.2.type 0).1).1 :: (Dk.pat g D2 (c - (m + 1))).2.1 := by rw [show c - m = c - (m + 1) + 1 by omega]; rfl
    have e3 : (Dk.pat g D2 (c - m)).2.2 = (Dk.tm 4 ((Dk.pat g D2 (c - (m + 1))).2.2.type 0).2 g ((Dk.pat g D2 (c - (m + 1))).2.2.type 0).1).2 := by rw [show c - m = c - (m + 1) + 1 by omega]; rfl
    have dk := Dk.pat_ok (g := g) d2 (c - (m + 1))
    obtain ⟨Ls, l1, l2, l3, l4⟩ := Dk.pat_ex hg D2 (c - (m + 1))
    have hl1 : (Dk.pat g D2 (c - (m + 1))).1.length ≤ 10 := by rw [l1]; simp; omega
    have hl2 : (Dk.pat g D2 (c - (m + 1))).2.1.length ≤ 10 := by rw [l2]; simp; omega
    generalize Dk.pat g D2 (c - (m + 1)) = r at *
    have hty := type0_c r.2.2 dk
    have s0 := Dk.type0 r.2.2
    have s0' := small_one s0.1 s0.2
    have dk2 := Dk.type_ok 0 _ dk
    have htm := term_c 4 (by omega) (r.2.2.type 0).2 g (r.2.2.type 0).1 2 (by omega) dk2 hg s0' (by omega) (by omega) (by omega)
    clear l1 l2 l3
    obtain ⟨r1, r2, r3⟩ := r
    simp only at *
    cases r2
    all_goals
      try simp only [List.length_cons] at hl2
      repeat' (first | ((with_reducible refine D.nil ?_); refine AX.nilL ?_) | ((with_reducible refine D.load ?_); refine L.ldb U U U U U U ?_) | ((with_reducible refine D.move ?_); refine L.mv U U U ?_) | ((with_reducible refine D.assign ?_); refine L.asg U U U ?_) | ((with_reducible refine D.call ?_); first | refine L.apt U U U U U U (by first | exact trivial | exact ⟨rfl, trivial⟩) U U (by first | omega | (simp; omega)) ?_ | refine L.aptF U U U U (by first | assumption | simp) U U U (by first | omega | (simp; omega)) ?_ | (apply L.cb2 (hty) [0] 0 rfl; rfl; rfl; rfl; rfl; rfl; rfl; (focus ((repeat' (first | exact trivial | refine And.intro ?_ ?_ | refine ⟨_, U, _, U, _, U, ?_⟩ | exact VLe.refl _)); done)); rfl; rfl; rfl; rfl) | (apply L.cb2 (htm) [0] 0 rfl; rfl; rfl; rfl; rfl; rfl; rfl; (focus ((repeat' (first | exact trivial | refine And.intro ?_ ?_ | refine ⟨_, U, _, U, _, U, ?_⟩ | exact VLe.refl _)); done)); rfl; rfl; rfl; rfl) | refine L.apE U U U U U U U ?_) | ((with_reducible refine D.alloc ?_); refine L.al U U U ?_) | ((with_reducible refine D.store ?_); refine L.st U U U U U U U U U ?_) | ((with_reducible refine D.ax ?_); refine L.bs1 U U U U U (EC.fold_of U) U U ?_) | ((with_reducible refine D.aw ?_); first | refine K.sq (AW.regL ?_) | refine AW.regL ?_) | with_reducible refine K.tN ?_ | with_reducible refine K.bN ?_)
      refine ⟨rfl, by omega, ?_⟩
      simp only [e1, e2, e3]
      exact (Weak.mk [some 0, some 1, some 4] _ _ _ U U U U (by (repeat' (first | exact trivial | refine And.intro ?_ ?_ | refine ⟨_, U, _, U, ?_⟩ | exact VLe.refl _ | exact VLe.any _ _)); done) (by (repeat' (first | exact trivial | exact Or.inr ⟨_, U, rfl⟩ | refine And.intro ?_ ?_ | refine ⟨_, U, _, U, _, U, ?_⟩ | exact VLe.refl _)); done))
  · intro _
    simp only [Nat.sub_zero]
    have dk := Dk.pat_ok (g := g) d2 c
    obtain ⟨Ls, l1, l2, l3, l4⟩ := Dk.pat_ex hg D2 c
    have hl1 : (Dk.pat g D2 c).1.length ≤ 10 := by rw [l1]; simp; omega
    have hsm : smalls (Dk.pat g D2 c).1 := by
      rw [l1]
      refine smalls_app hg fun x hx => ?_
      rw [List.mem_reverse] at hx
      obtain ⟨q, hq, rfl⟩ := List.mem_map.1 hx
      exact (l4 q hq).2
    generalize Dk.pat g D2 c = r at *
    have hfm := mkFm_c 2 r.2.2 r.1 2 (by omega) rfl dk hsm (by omega)
    repeat' (first | ((with_reducible refine D.nil ?_); refine AX.nilL ?_) | ((with_reducible refine D.move ?_); refine L.mv U U U ?_) | ((with_reducible refine D.assign ?_); refine L.asg U U U ?_) | ((with_reducible refine D.call ?_); (apply L.cb2 (hfm) [0] 0 rfl; rfl; rfl; rfl; rfl; rfl; rfl; (focus ((repeat' (first | exact trivial | refine And.intro ?_ ?_ | refine ⟨_, U, _, U, _, U, ?_⟩ | exact VLe.refl _)); done)); rfl; rfl; rfl; rfl)) | ((with_reducible refine D.store ?_); refine L.st U U U U U U U U U ?_) | ((with_reducible refine D.aw ?_); first | refine K.sq (AW.regL ?_) | refine AW.ret ?_) | with_reducible refine K.tN ?_)
    (exact K.n2 [some 0] U U U U U (by (repeat' (first | exact trivial | refine And.intro ?_ ?_ | refine ⟨_, U, _, U, _, U, ?_⟩ | exact VLe.refl _)); done) U (by simp [tupV, V.wk, V.wks, constV, Ty.view, Tm.view, Fm.view]))
end Go.Ab
namespace Go.Ab
open Go Go.Proofs
set_option maxRecDepth 100000
set_option maxHeartbeats 4000000
set_option linter.all false
theorem fillX_c (p : Fm) (l : List Tm) (hp : p.full < 137438953472) (hl : l.length ≤ 16 → ∀ t ∈ l, t.full < 137438953472) : PC E 10 [.agg p.view, .s .tm l] (.tup [.agg (fill p l).1.view, .i (fill p l).2]) := by
  by_cases hl16 : 16 < l.length
  case neg => exact fill_c p l hp (by omega) (hl (by omega))
  have h1 := fcheck_c p (by omega)
  by_cases he : p.err = 0
  · have e2 : fill p l = (noFm, 1) := by simp only [fill]; rw [if_neg (by simp [he]), if_pos hl16]
    rw [he] at h1
    rw [e2]
    refine AC.mk Tryz.func10 rfl rfl rfl rfl rfl (Nat.le_of_ble_eq_true rfl) ?_
    repeat' (first | ((with_reducible refine D.nil ?_); refine AX.nilL ?_) | ((with_reducible refine D.load ?_); refine L.ldb U U U U U U ?_) | ((with_reducible refine D.move ?_); refine L.mv U U U ?_) | ((with_reducible refine D.assign ?_); refine L.asg U U U ?_) | ((with_reducible refine D.bin ?_); refine L.bn U U U U U ?_) | ((with_reducible refine D.call ?_); first | refine L.lnt U U U U ?_ | refine L.c2 (h1) U U U U ?_) | ((with_reducible refine D.box ?_); refine L.bx U U U U ?_) | ((with_reducible refine D.alloc ?_); refine L.al U U U ?_) | ((with_reducible refine D.store ?_); refine L.st U U U U U U U U U ?_) | ((with_reducible refine D.ax ?_); refine L.bd U U U U U ?_) | ((with_reducible refine D.aw ?_); (fail_if_success with_reducible refine D.stopR (id := 6) ?_); (fail_if_success with_reducible refine D.stopS (id := 6) ?_); first | refine K.sq (AW.regL ?_) | refine K.sq (K.sq ?_) | refine AW.regL ?_ | refine AW.condF U ?_ | refine AW.condS U (fun h => ?_) (fun h => ?_) | refine AW.skip ?_ | refine AW.ret ?_) | with_reducible refine K.tN ?_ | with_reducible refine K.tR ?_ | with_reducible refine K.r1 (by with_unfolding_all rfl) (by with_unfolding_all rfl) ?_)
    all_goals first
      | rfl
      | (exfalso; simp at h; omega)
  · have e2 : fill p l = (noFm, p.err) := by simp only [fill]; rw [if_pos he]
    rw [e2]
    refine AC.mk Tryz.func10 rfl rfl rfl rfl rfl (Nat.le_of_ble_eq_true rfl) ?_
    repeat' (first | ((with_reducible refine D.nil ?_); refine AX.nilL ?_) | ((with_reducible refine D.load ?_); refine L.ldb U U U U U U ?_) | ((with_reducible refine D.move ?_); refine L.mv U U U ?_) | ((with_reducible refine D.assign ?_); refine L.asg U U U ?_) | ((with_reducible refine D.bin ?_); refine L.bn U U U U U ?_) | ((with_reducible refine D.call ?_); refine L.c2 (h1) U U U U ?_) | ((with_reducible refine D.box ?_); refine L.bx U U U U ?_) | ((with_reducible refine D.alloc ?_); refine L.al U U U ?_) | ((with_reducible refine D.store ?_); refine L.st U U U U U U U U U ?_) | ((with_reducible refine D.ax ?_); refine L.bd U U U U U ?_) | ((with_reducible refine D.aw ?_); (fail_if_success with_reducible refine D.stopR (id := 4) ?_); (fail_if_success with_reducible refine D.stopS (id := 4) ?_); first | refine K.sq (AW.regL ?_) | refine K.sq (K.sq ?_) | refine AW.regL ?_ | refine AW.condS U (fun h => ?_) (fun h => ?_) | refine AW.skip ?_ | refine AW.ret ?_) | with_reducible refine K.tN ?_ | with_reducible refine K.tR ?_ | with_reducible refine K.r1 (by with_unfolding_all rfl) (by with_unfolding_all rfl) ?_)
    all_goals first
      | rfl
      | (exfalso; simp at h; exact he h)
theorem parts_both (x : Fm) (hx : x.full < 1000000000) : ∃ (ts : List Ty) (ps : List Fm) (c : Fm) (e : Int), PC E 21 [.agg x.view] (.tup [.s .ty ts, .s .fm ps, .agg c.view, .i e]) ∧ PC E 22 [.agg x.view] (.tup [.s .ty ts, .s .fm ps, .agg c.view, .i e]) ∧
    (ts.map Ty.size).sum < 1099511627776 ∧ (ps.map Fm.full).sum < 1099511627776 ∧ c.full < 1099511627776 := by
  by_cases he : x.err = 0
  · have hs := (Fm.err_iff x).1 he
    obtain ⟨qs, b, rfl, hb4, hb6, hbs, hqs⟩ := quFs_ex x hs.1
    obtain ⟨ps, c, rfl, hc3, hcs, hps⟩ := imFs_ex b hbs
    have h1 := Parts_c qs ps c (fun q hq => (hqs q hq).1) ⟨hb4, hb6⟩ hc3 (by omega) he
    have h2 := PartsR_c qs ps c (fun q hq => (hqs q hq).1) ⟨hb4, hb6⟩ hc3 (by omega) he
    have f1 := quFs_full qs (imFs ps c)
    have f2 := imFs_full ps c
    have s1 : ((qs.map (·.2)).map Ty.size).sum ≤ (qs.map fun q => 1 + q.2.size).sum := by rw [List.map_map]; exact lsum_le qs fun x _ => by simp [Function.comp]
    have s2 : (ps.map Fm.full).sum ≤ (ps.map fun p => 2 + p.full).sum := lsum_le ps fun x _ => by omega
    exact ⟨_, _, _, _, h1, h2, by omega, by omega, by omega⟩
  · exact ⟨_, _, _, _, PartsE_c x (by omega) he, PartsRE_c x (by omega) he, by decide, by decide, by decide⟩
end Go.Ab
namespace Go.Ab
open Go Go.Proofs
set_option maxRecDepth 100000
set_option maxHeartbeats 4000000
set_option linter.all false
abbrev z5 : List V := [.i 0, .i 0, .slice .nil (.t .ty []), .slice .nil (.t .tm []), .slice .nil (.t .fm [])]
theorem elaborateDoes_c (l : List Int) (raw more : Fm) (holes : Int) (tl : List Tm) (hh : -9223372036854775808 ≤ holes ∧ holes ≤ 9223372036854775807) (htl : tl.length ≤ 9223372036854775807) : PC E 4 [.s .int l, .agg raw.view, .agg more.view, .i holes, .s .tm tl] (.bool true) := by
  have hr := forms18_c raw
  have hm := forms18_c more
  refine AC.mk Tryz.func4 rfl rfl rfl rfl rfl (Nat.le_of_ble_eq_true rfl) ?_
  repeat' (first | ((with_reducible refine D.nil ?_); refine AX.nilL ?_) | ((with_reducible refine D.move ?_); refine L.mv U U U ?_) | ((with_reducible refine D.assign ?_); refine L.asg U U U ?_) | ((with_reducible refine D.call ?_); first | refine L.lnt U U U U ?_ | refine L.c2 (sane18_c) U U U U ?_) | ((with_reducible refine D.box ?_); refine L.bx U U U U ?_) | ((with_reducible refine D.not ?_); refine L.nt U U U ?_) | ((with_reducible refine D.aw ?_); (fail_if_success with_reducible refine D.stopR (id := 9) ?_); (fail_if_success with_reducible refine D.stopS (id := 9) ?_); first | refine K.sq (AW.regL ?_) | refine K.sq (K.sq ?_) | refine AW.regL ?_ | refine AW.condF U ?_ | refine AW.skip ?_) | with_reducible refine K.tN ?_)
  refine AW.cutT (ι := Unit) (fun _ => ([(0, .s .int l), (3, .i holes), (4, .s .tm tl), (6, .ptr 0 0), (7, .ptr 1 0), (11, .i (wsum tl))], ⟨2, [(0, .var raw.view), (1, .var more.view)]⟩)) ?_ ?_
  · refine AW.block (AW.upto tl.length (fun m => True)
      (fun m => ([(0, .s .int l), (3, .i holes), (4, .s .tm tl), (6, .ptr 0 0), (7, .ptr 1 0), (11, .i (wsum (tl.take m))), (46, .s .tm tl), (47, .i tl.length), (48, .i m)], ⟨2, [(0, .var raw.view), (1, .var more.view)]⟩))
      trivial (Weak.mk [some 0, some 1] _ _ _ U U U U (by (repeat' (first | exact trivial | refine And.intro ?_ ?_ | refine ⟨_, U, _, U, ?_⟩ | exact VLe.refl _)); done) (by (repeat' (first | exact trivial | refine And.intro ?_ ?_ | refine ⟨_, U, _, U, _, U, ?_⟩ | exact VLe.refl _)); done)) fun m hm _ => ?_)
    by_cases hlt : m < tl.length
    · have hc := terms18_c tl[m]
      have e := wsum_take tl m hlt
      repeat' (first | ((with_reducible refine D.nil ?_); refine AX.nilL ?_) | ((with_reducible refine D.bin ?_); refine L.bn U U U U U ?_) | ((with_reducible refine D.aw ?_); (fail_if_success with_reducible refine D.stopR (id := 6) ?_); (fail_if_success with_reducible refine D.stopS (id := 6) ?_); first | ((with_reducible refine D.sblk ?_); refine K.sq (AW.block ?_)) | refine K.sq (AW.regL ?_) | refine K.sq (AW.condS U (fun h => ?_) (fun h => ?_)) | refine AW.skip ?_ | refine AW.exit ?_) | with_reducible refine K.tN ?_ | with_reducible refine K.tE ?_ | with_reducible refine K.bX (by with_unfolding_all rfl) ?_ | with_reducible refine K.uE ?_)
      all_goals first
        | (exfalso; simp at h; omega)
        | skip
      repeat' (first | ((with_reducible refine D.nil ?_); refine AX.nilL ?_) | ((with_reducible refine D.load ?_); first | refine L.ldb U U U U U U ?_ | refine L.lda U U U U U ?_) | ((with_reducible refine D.move ?_); refine L.mv U U U ?_) | ((with_reducible refine D.assign ?_); refine L.asg U U U ?_) | ((with_reducible refine D.bin ?_); first | refine L.ad U U U U (by omega) ?_ | refine L.bn U U U U U ?_) | ((with_reducible refine D.call ?_); refine L.c2 (hc) U U U U ?_) | ((with_reducible refine D.alloc ?_); refine L.al U U U ?_) | ((with_reducible refine D.store ?_); refine L.st U U U U U U U U U ?_) | ((with_reducible refine D.indexAddr ?_); refine L.ixt _ U U U U U U U (by assumption) ?_) | ((with_reducible refine D.aw ?_); first | refine K.sq (AW.regL ?_) | refine AW.regL ?_) | with_reducible refine K.tN ?_ | with_reducible refine K.bN ?_)
      refine ⟨hlt, trivial, ?_⟩
      simp only [e]
      exact (Weak.mk [some 0, some 1] _ _ _ U U U U (by (repeat' (first | exact trivial | refine And.intro ?_ ?_ | refine ⟨_, U, _, U, ?_⟩ | exact VLe.refl _)); done) (by (repeat' (first | exact trivial | refine And.intro ?_ ?_ | refine ⟨_, U, _, U, _, U, ?_⟩ | exact VLe.refl _)); done))
    · obtain rfl : m = tl.length := by omega
      simp only [List.take_length]
      repeat' (first | ((with_reducible refine D.nil ?_); refine AX.nilL ?_) | ((with_reducible refine D.bin ?_); refine L.bn U U U U U ?_) | ((with_reducible refine D.aw ?_); (fail_if_success with_reducible refine D.stopR (id := 6) ?_); (fail_if_success with_reducible refine D.stopS (id := 6) ?_); first | ((with_reducible refine D.sblk ?_); refine K.sq (AW.block ?_)) | refine K.sq (AW.regL ?_) | refine K.sq (AW.condS U (fun h => ?_) (fun h => ?_)) | refine AW.skip ?_ | refine AW.exit ?_) | with_reducible refine K.tN ?_ | with_reducible refine K.tE ?_ | with_reducible refine K.bX (by with_unfolding_all rfl) ?_ | with_reducible refine K.uE ?_)
      all_goals first
        | (exfalso; simp at h; done)
        | exact ⟨(), (Weak.mk [some 0, some 1] _ _ _ U U U U (by (repeat' (first | exact trivial | refine And.intro ?_ ?_ | refine ⟨_, U, _, U, ?_⟩ | exact VLe.refl _)); done) (by (repeat' (first | exact trivial | refine And.intro ?_ ?_ | refine ⟨_, U, _, U, _, U, ?_⟩ | exact VLe.refl _)); done))⟩
  intro _
  by_cases hl : l.length ≤ 500
  case neg =>
    have hf := few_f l hl
    repeat' (first | ((with_reducible refine D.nil ?_); refine AX.nilL ?_) | ((with_reducible refine D.load ?_); refine AX.sk U U ?_) | ((with_reducible refine D.move ?_); first | refine L.mv U U U ?_ | refine AX.sk U U ?_) | ((with_reducible refine D.assign ?_); refine L.asg U U U ?_) | ((with_reducible refine D.bin ?_); refine AX.sk U U ?_) | ((with_reducible refine D.call ?_); first | refine L.c2 (hf) U U U U ?_ | refine AX.sk U U ?_) | ((with_reducible refine D.not ?_); refine L.nt U U U ?_) | ((with_reducible refine D.pick ?_); refine L.pk U U U U ?_) | ((with_reducible refine D.aw ?_); first | refine K.sq (AW.regL ?_) | refine K.sq (K.sq ?_) | refine AW.regL ?_ | refine AW.condT U ?_ | refine AW.ret ?_) | with_reducible refine K.tN ?_ | with_reducible refine K.tR ?_ | with_reducible refine K.r1 (by with_unfolding_all rfl) (by with_unfolding_all rfl) ?_)
    rfl
  have hf := few_t l hl
  by_cases hsm : raw.cn 20000 ≤ 400 ∧ more.cn 20000 ≤ 400 ∧ wsum tl ≤ 300
  case neg =>
    repeat' (first | ((with_reducible refine D.nil ?_); refine AX.nilL ?_) | ((with_reducible refine D.load ?_); first | refine L.ldb U U U U U U ?_ | refine AX.sk U U ?_ | ((fail_if_success refine AX.wt U ?_); refine AX.gs U U (fun _ => trivial) (fun h => ?_) (fun h => ?_))) | ((with_reducible refine D.move ?_); first | refine L.mv U U U ?_ | refine AX.sk U U ?_ | ((fail_if_success refine AX.wt U ?_); refine AX.gs U U (fun _ => trivial) (fun h => ?_) (fun h => ?_))) | ((with_reducible refine D.assign ?_); refine L.asg U U U ?_) | ((with_reducible refine D.bin ?_); first | refine L.bn U U U U U ?_ | refine AX.sk U U ?_) | ((with_reducible refine D.call ?_); first | refine L.c2 (hf) U U U U ?_ | refine L.c2 (hr) U U U U ?_ | refine L.c2 (hm) U U U U ?_ | refine AX.sk U U ?_) | ((with_reducible refine D.not ?_); refine L.nt U U U ?_) | ((with_reducible refine D.pick ?_); refine L.pk U U U U ?_) | ((with_reducible refine D.aw ?_); (fail_if_success with_reducible refine D.stopR (id := 11) ?_); (fail_if_success with_reducible refine D.stopS (id := 11) ?_); first | refine K.sq (AW.regL ?_) | refine K.sq (K.sq ?_) | refine AW.regL ?_ | refine AW.condT U ?_ | refine AW.condS U (fun h => ?_) (fun h => ?_) | refine AW.skip ?_ | refine AW.ret ?_) | with_reducible refine K.tN ?_ | with_reducible refine K.tR ?_ | with_reducible refine K.r1 (by with_unfolding_all rfl) (by with_unfolding_all rfl) ?_)
    all_goals first
      | rfl
      | (exfalso; apply hsm; simp at *; omega)
  obtain ⟨hsr, hsmo, hst⟩ := hsm
  have fr := cn_full hsr
  have fm := cn_full hsmo
  have ft : tl.length ≤ 16 → ∀ t ∈ tl, t.full ≤ 300 := fun h16 => wsum_full h16 hst
  have hn := new_c l
  have d0 := deck_ok hl
  have hpt := pattern_c (Dk.mk l 0) d0
  have hg := Dk.ctx_smalls (Dk.mk l 0)
  have hgl := Dk.ctx_len (Dk.mk l 0)
  have hb := Dk.next_bd (Dk.mk l 0).ctx.2 4 (by omega)
  obtain ⟨Ls, l1, l2, l3, l4⟩ := Dk.pat_ex hg ((Dk.mk l 0).ctx.2.next 4).2 ((Dk.mk l 0).ctx.2.next 4).1.toNat
  have e1 : (Dk.mk l 0).pt.1 = (Dk.mk l 0).ctx.1 ++ (Ls.map (·.2)).reverse := l1
  have e2 : (Dk.mk l 0).pt.2.1 = Ls.map (·.1) := l2
  have hL : Ls.length ≤ 3 := by omega
  clear l1 l2 l3
  generalize (Dk.mk l 0).ctx.1 = g at *
  generalize (Dk.mk l 0).pt = r at *
  obtain ⟨all, own, D3⟩ := r
  simp only at hpt e1 e2
  have hall : smalls all := by
    rw [e1]
    refine smalls_app hg fun x hx => ?_
    rw [List.mem_reverse] at hx
    obtain ⟨q, hq, rfl⟩ := List.mem_map.1 hx
    exact (l4 q hq).2
  have hgood := Dk.fm_good 2 D3 all hall
  generalize (Dk.fm 2 D3 all).2 = D4 at *
  generalize (Dk.fm 2 D3 all).1 = p at *
  obtain ⟨hsh, hsz, hfu⟩ := hgood
  have hpf : p.full ≤ 4800 := by have : (2 : Nat) ^ 2 = 4 := rfl; rw [this] at hfu; omega
  have hol : own.length ≤ 3 := by rw [e2]; simp; omega
  have hfl : ∀ s ∈ own, s.full < 2000 := fun s hs => by
    rw [e2] at hs
    obtain ⟨q, hq, rfl⟩ := List.mem_map.1 hs
    have := (l4 q hq).1.full hg (l4 q hq).2
    have h34 : (3 : Nat) ^ 4 = 81 := rfl
    omega
  have hfill := fillR_c p own (by omega) fun _ t ht => by have := hfl t ht; omega
  have hmod := mod_c holes 4 (by omega)
  have hmb := modI_nonneg holes 4 (by omega)
  have hfb := fill_bd (p := p) (l := own)
  generalize (fill p own).1 = f at *
  generalize (fill p own).2 = fe at *
  have hX : ∀ x ∈ [raw, p], x.full ≤ 4800 := fun x hx => by
    simp only [List.mem_cons, List.not_mem_nil, or_false] at hx
    rcases hx with rfl | rfl <;> omega
  have hY : ∀ y ∈ [more, f, p], y.full ≤ 1200000000 := fun y hy => by
    simp only [List.mem_cons, List.not_mem_nil, or_false] at hy
    rcases hy with rfl | rfl | rfl <;> omega
  have hZ : ∀ z ∈ [tl, own], z.length ≤ 16 → ∀ t ∈ z, t.full < 137438953472 := fun z hz h16 t ht => by
    simp only [List.mem_cons, List.not_mem_nil, or_false] at hz
    rcases hz with rfl | rfl
    · have := ft h16 t ht; omega
    · have := hfl t ht; omega
  clear hsh hsz hfu hall e1 e2 l4 hg hb
  repeat' (first | ((with_reducible refine D.nil ?_); refine AX.nilL ?_) | ((with_reducible refine D.load ?_); first | refine L.ldb U U U U U U ?_ | refine AX.sk U U ?_ | ((fail_if_success refine AX.wt U ?_); refine AX.gs U U (fun _ => trivial) (fun h => ?_) (fun h => ?_))) | ((with_reducible refine D.move ?_); first | refine L.mv U U U ?_ | refine AX.sk U U ?_ | ((fail_if_success refine AX.wt U ?_); refine AX.gs U U (fun _ => trivial) (fun h => ?_) (fun h => ?_))) | ((with_reducible refine D.assign ?_); refine L.asg U U U ?_) | ((with_reducible refine D.bin ?_); first | refine L.bn U U U U U ?_ | refine AX.sk U U ?_) | ((with_reducible refine D.call ?_); first | refine L.c2 (hf) U U U U ?_ | refine L.c2 (hr) U U U U ?_ | refine L.c2 (hm) U U U U ?_ | refine AX.sk U U ?_) | ((with_reducible refine D.not ?_); refine L.nt U U U ?_) | ((with_reducible refine D.pick ?_); refine L.pk U U U U ?_) | ((with_reducible refine D.aw ?_); (fail_if_success with_reducible refine D.stopR (id := 11) ?_); (fail_if_success with_reducible refine D.stopS (id := 11) ?_); first | refine K.sq (AW.regL ?_) | refine K.sq (K.sq ?_) | refine AW.regL ?_ | refine AW.condT U ?_ | refine AW.condS U (fun h => ?_) (fun h => ?_) | refine AW.skip ?_ | refine AW.ret ?_) | with_reducible refine K.tN ?_ | with_reducible refine K.tR ?_ | with_reducible refine K.r1 (by with_unfolding_all rfl) (by with_unfolding_all rfl) ?_)
  all_goals first
    | rfl
    | skip
  clear hf hr hm
  repeat' (first | ((with_reducible refine D.nil ?_); refine AX.nilL ?_) | ((with_reducible refine D.load ?_); refine L.ldb U U U U U U ?_) | ((with_reducible refine D.move ?_); refine L.mv U U U ?_) | ((with_reducible refine D.assign ?_); refine L.asg U U U ?_) | ((with_reducible refine D.call ?_); first | refine L.lnt U U U U ?_ | (apply L.cb2 (hn) [] 1 rfl; rfl; rfl; rfl; rfl; rfl; rfl; (focus ((repeat' (first | exact trivial)); done)); rfl; rfl; rfl; rfl) | (apply L.cb2 (hpt) [2] 0 rfl; rfl; rfl; rfl; rfl; rfl; rfl; (focus ((repeat' (first | exact trivial | refine And.intro ?_ ?_ | refine ⟨_, U, _, U, _, U, ?_⟩ | exact VLe.refl _)); done)); rfl; rfl; rfl; rfl) | refine L.c2 (hfill) U U U U ?_) | ((with_reducible refine D.extract ?_); refine L.ex U U U U ?_) | ((with_reducible refine D.alloc ?_); refine L.al U U U ?_) | ((with_reducible refine D.store ?_); refine L.st U U U U U U U U U ?_) | ((with_reducible refine D.ax ?_); refine L.bs2 U U U U U (EC.fold_of U) U U U (EC.fold_of U) U U ?_) | ((with_reducible refine D.aw ?_); first | refine K.sq (AW.regL ?_) | refine K.sq (K.sq ?_) | refine AW.regL ?_) | with_reducible refine K.tN ?_)
  refine AW.range ([raw, p] : List Fm).length (fun m => True) (fun m => ([(3, .i holes), (4, .s .tm tl), (6, .ptr 0 0), (7, .ptr 1 0), (16, .ptr 3 0), (17, .s .tm own), (18, .ptr 4 0), (90, .s .fm [raw, p]), (91, .i ([raw, p] : List Fm).length), (92, .i m)], ⟨5, [(0, .var raw.view), (1, .var more.view), (2, .var D4.cells), (3, .var p.view), (4, .var f.view)]⟩))
    (by simp) (fun m => rfl) (fun m => rfl) U trivial (Weak.mk [some 0, some 1, some 2, some 3, some 4] _ _ _ U U U U (by (repeat' (first | exact trivial | refine And.intro ?_ ?_ | refine ⟨_, U, _, U, ?_⟩ | exact VLe.refl _ | exact VLe.any _ _)); done) (by (repeat' (first | exact trivial | refine And.intro ?_ ?_ | refine ⟨_, U, _, U, _, U, ?_⟩ | exact VLe.refl _)); done)) ?_ ?_
  · intro m hm _
    have hx := all_at hX hm
    obtain ⟨pts, pps, pc, pe, hp1, hp2, hp3, hp4, hp5⟩ := parts_both [raw, p][m] (by omega)
    have hq1 := sameAllTy_r pts hp3
    have hq2 := sameAllFm_r pps hp4
    have hq3 := sameFm_r _ pc (Nat.le_refl _) hp5
    repeat' (first | ((with_reducible refine D.nil ?_); refine AX.nilL ?_) | ((with_reducible refine D.load ?_); first | refine L.ldb U U U U U U ?_ | refine L.lda U U U U U ?_) | ((with_reducible refine D.move ?_); refine L.mv U U U ?_) | ((with_reducible refine D.call ?_); refine L.lnt U U U U ?_) | ((with_reducible refine D.alloc ?_); refine L.al U U U ?_) | ((with_reducible refine D.store ?_); refine L.st U U U U U U U U U ?_) | ((with_reducible refine D.indexAddr ?_); refine L.ixt _ U U U U U U U (by assumption) ?_) | ((with_reducible refine D.ax ?_); refine L.bs3 U U U U U (EC.fold_of U) U U U (EC.fold_of U) U U U (EC.fold_of U) U U ?_) | ((with_reducible refine D.aw ?_); first | refine K.sq (AW.regL ?_) | refine K.sq (K.sq ?_) | refine AW.regL ?_) | with_reducible refine K.tN ?_)
    refine AW.range ([more, f, p] : List Fm).length (fun m => True) (fun m2 => ([(3, .i holes), (4, .s .tm tl), (6, .ptr 0 0), (7, .ptr 1 0), (16, .ptr 3 0), (17, .s .tm own), (18, .ptr 4 0), (90, .s .fm [raw, p]), (91, .i ([raw, p] : List Fm).length), (92, .i m), (21, .ptr 5 0), (99, .s .fm [more, f, p]), (100, .i ([more, f, p] : List Fm).length), (101, .i m2)], ⟨6, [(0, .var raw.view), (1, .var more.view), (2, .var D4.cells), (3, .var p.view), (4, .var f.view), (5, .var ([raw, p][m]).view)]⟩))
      (by simp) (fun m => rfl) (fun m => rfl) U trivial (Weak.mk [some 0, some 1, some 2, some 3, some 4, some 5] _ _ _ U U U U (by (repeat' (first | exact trivial | refine And.intro ?_ ?_ | refine ⟨_, U, _, U, ?_⟩ | exact VLe.refl _ | exact VLe.any _ _)); done) (by (repeat' (first | exact trivial | refine And.intro ?_ ?_ | refine ⟨_, U, _, U, _, U, ?_⟩ | exact VLe.refl _)); done)) ?_ ?_
    · intro m2 hm2 _
      have hy := all_at hY hm2
      repeat' (first | ((with_reducible refine D.nil ?_); refine AX.nilL ?_) | ((with_reducible refine D.load ?_); refine L.lda U U U U U ?_) | ((with_reducible refine D.move ?_); refine L.mv U U U ?_) | ((with_reducible refine D.call ?_); first | refine L.lnt U U U U ?_ | refine L.c2 (hmod) U U U U ?_) | ((with_reducible refine D.alloc ?_); refine L.al U U U ?_) | ((with_reducible refine D.store ?_); refine L.st U U U U U U U U U ?_) | ((with_reducible refine D.indexAddr ?_); refine L.ixt _ U U U U U U U (by assumption) ?_) | ((with_reducible refine D.ax ?_); refine L.bs3 U U U U U (EC.fold_of U) U U U (EC.fold_of U) U U U (EC.fold_of U) U U ?_) | ((with_reducible refine D.aw ?_); refine K.sq (AW.regL ?_)) | with_reducible refine K.tN ?_)
      refine AW.range ([holes, (own.length : Int), modI holes 4] : List Int).length (fun m => True) (fun m3 => ([(3, .i holes), (4, .s .tm tl), (6, .ptr 0 0), (7, .ptr 1 0), (16, .ptr 3 0), (17, .s .tm own), (18, .ptr 4 0), (90, .s .fm [raw, p]), (91, .i ([raw, p] : List Fm).length), (92, .i m), (21, .ptr 5 0), (99, .s .fm [more, f, p]), (100, .i ([more, f, p] : List Fm).length), (101, .i m2), (23, .ptr 6 0), (110, .s .int [holes, (own.length : Int), modI holes 4]), (111, .i ([holes, (own.length : Int), modI holes 4] : List Int).length), (112, .i m3)], ⟨7, [(0, .var raw.view), (1, .var more.view), (2, .var D4.cells), (3, .var p.view), (4, .var f.view), (5, .var ([raw, p][m]).view), (6, .var ([more, f, p][m2]).view)]⟩))
        (by simp) (fun m => rfl) (fun m => rfl) U trivial (Weak.mk [some 0, some 1, some 2, some 3, some 4, some 5, some 6] _ _ _ U U U U (by (repeat' (first | exact trivial | refine And.intro ?_ ?_ | refine ⟨_, U, _, U, ?_⟩ | exact VLe.refl _ | exact VLe.any _ _)); done) (by (repeat' (first | exact trivial | refine And.intro ?_ ?_ | refine ⟨_, U, _, U, _, U, ?_⟩ | exact VLe.refl _)); done)) ?_ ?_
      · intro m3 hm3 _
        have c1 := match_c [raw, p][m] [more, f, p][m2] [holes, (own.length : Int), modI holes 4][m3] (by omega) (by omega)
        have c2 := rmatch_c [raw, p][m] [more, f, p][m2] [holes, (own.length : Int), modI holes 4][m3] (by omega) (by omega)
        have hms := matchF_sum [raw, p][m] [holes, (own.length : Int), modI holes 4][m3] [more, f, p][m2]
        have c3 := sameAllTm_r (matchF [raw, p][m] [holes, (own.length : Int), modI holes 4][m3] [more, f, p][m2]).1 (by omega)
        repeat' (first | ((with_reducible refine D.nil ?_); refine AX.nilL ?_) | ((with_reducible refine D.load ?_); first | refine L.ldb U U U U U U ?_ | refine L.lda U U U U U ?_) | ((with_reducible refine D.move ?_); first | refine L.mv U U U ?_ | refine AX.sk U U ?_ | ((fail_if_success refine AX.wt U ?_); refine AX.gs U U (fun _ => trivial) (fun h => ?_) (fun h => ?_))) | ((with_reducible refine D.assign ?_); refine L.asg U U U ?_) | ((with_reducible refine D.bin ?_); refine L.bn U U U U U ?_) | ((with_reducible refine D.call ?_); first | refine L.c2 (c1) U U U U ?_ | refine L.c2 (c2) U U U U ?_ | refine L.c2 (c3) U U U U ?_ | refine AX.sk U U ?_) | ((with_reducible refine D.extract ?_); refine L.ex U U U U ?_) | ((with_reducible refine D.indexAddr ?_); refine L.ixt _ U U U U U U U (by assumption) ?_) | ((with_reducible refine D.not ?_); first | refine L.nt U U U ?_ | refine AX.sk U U ?_) | ((with_reducible refine D.pick ?_); refine L.pk U U U U ?_) | ((with_reducible refine D.aw ?_); first | refine K.sq (AW.regL ?_) | refine AW.condT U ?_ | refine AW.condF U ?_ | refine AW.skip ?_ | refine AW.ret ?_) | with_reducible refine K.tN ?_ | with_reducible refine K.bN ?_ | with_reducible refine K.tR ?_ | with_reducible refine K.bR ?_ | with_reducible refine K.gR ?_ | with_reducible refine K.r1 (by with_unfolding_all rfl) (by with_unfolding_all rfl) ?_)
        all_goals first
          | (exfalso; simp at h; done)
          | skip
        exact ⟨rfl, trivial, (Weak.mk [some 0, some 1, some 2, some 3, some 4, some 5, some 6] _ _ _ U U U U (by (repeat' (first | exact trivial | refine And.intro ?_ ?_ | refine ⟨_, U, _, U, ?_⟩ | exact VLe.refl _)); done) (by (repeat' (first | exact trivial | refine And.intro ?_ ?_ | refine ⟨_, U, _, U, _, U, ?_⟩ | exact VLe.refl _)); done))⟩
      · intro _
        repeat' (first | with_reducible refine K.bN ?_)
        exact ⟨rfl, trivial, (Weak.mk [some 0, some 1, some 2, some 3, some 4, some 5] _ _ _ U U U U (by (repeat' (first | exact trivial | refine And.intro ?_ ?_ | refine ⟨_, U, _, U, ?_⟩ | exact VLe.refl _)); done) (by (repeat' (first | exact trivial | refine And.intro ?_ ?_ | refine ⟨_, U, _, U, _, U, ?_⟩ | exact VLe.refl _)); done))⟩
    · intro _
      repeat' (first | ((with_reducible refine D.nil ?_); refine AX.nilL ?_) | ((with_reducible refine D.move ?_); refine L.mv U U U ?_) | ((with_reducible refine D.call ?_); refine L.lnt U U U U ?_) | ((with_reducible refine D.ax ?_); refine L.bs2 U U U U U (EC.fold_of U) U U U (EC.fold_of U) U U ?_) | ((with_reducible refine D.aw ?_); first | refine K.sq (K.sq ?_) | refine AW.regL ?_) | with_reducible refine K.tN ?_)
      refine AW.range ([tl, own] : List (List Tm)).length (fun m => True) (fun m2 => ([(3, .i holes), (4, .s .tm tl), (6, .ptr 0 0), (7, .ptr 1 0), (16, .ptr 3 0), (17, .s .tm own), (18, .ptr 4 0), (90, .s .fm [raw, p]), (91, .i ([raw, p] : List Fm).length), (92, .i m), (21, .ptr 5 0), (143, .s .tms [tl, own]), (144, .i ([tl, own] : List (List Tm)).length), (145, .i m2)], ⟨6, [(0, .var raw.view), (1, .var more.view), (2, .var D4.cells), (3, .var p.view), (4, .var f.view), (5, .var ([raw, p][m]).view)]⟩))
        (by simp) (fun m => rfl) (fun m => rfl) U trivial (Weak.mk [some 0, some 1, some 2, some 3, some 4, some 5] _ _ _ U U U U (by (repeat' (first | exact trivial | refine And.intro ?_ ?_ | refine ⟨_, U, _, U, ?_⟩ | exact VLe.refl _ | exact VLe.any _ _)); done) (by (repeat' (first | exact trivial | refine And.intro ?_ ?_ | refine ⟨_, U, _, U, _, U, ?_⟩ | exact VLe.refl _)); done)) ?_ ?_
      · intro m2 hm2 _
        have hz := all_at hZ hm2
        have c1 := fillX_c [raw, p][m] [tl, own][m2] (by omega) hz
        have c2 := fillR_c [raw, p][m] [tl, own][m2] (by omega) hz
        have hbd := fill_bd (p := [raw, p][m]) (l := [tl, own][m2])
        have c3 := sameFm_r _ (fill [raw, p][m] [tl, own][m2]).1 (Nat.le_refl _) (by omega)
        repeat' (first | ((with_reducible refine D.nil ?_); refine AX.nilL ?_) | ((with_reducible refine D.load ?_); first | refine L.ldb U U U U U U ?_ | refine L.lda U U U U U ?_ | refine AX.sk U U ?_ | ((fail_if_success refine AX.wt U ?_); refine AX.gs U U (fun _ => trivial) (fun h => ?_) (fun h => ?_))) | ((with_reducible refine D.move ?_); refine L.mv U U U ?_) | ((with_reducible refine D.assign ?_); refine L.asg U U U ?_) | ((with_reducible refine D.bin ?_); refine L.bn U U U U U ?_) | ((with_reducible refine D.call ?_); first | refine L.c2 (c1) U U U U ?_ | refine L.c2 (c2) U U U U ?_ | refine L.c2 (c3) U U U U ?_ | refine AX.sk U U ?_) | ((with_reducible refine D.extract ?_); refine L.ex U U U U ?_) | ((with_reducible refine D.alloc ?_); refine L.al U U U ?_) | ((with_reducible refine D.store ?_); refine L.st U U U U U U U U U ?_) | ((with_reducible refine D.indexAddr ?_); refine L.ixt _ U U U U U U U (by assumption) ?_) | ((with_reducible refine D.not ?_); first | refine L.nt U U U ?_ | refine AX.sk U U ?_) | ((with_reducible refine D.pick ?_); refine L.pk U U U U ?_) | ((with_reducible refine D.aw ?_); first | refine K.sq (AW.regL ?_) | refine AW.condT U ?_ | refine AW.condF U ?_ | refine AW.skip ?_ | refine AW.ret ?_) | with_reducible refine K.tN ?_ | with_reducible refine K.bN ?_ | with_reducible refine K.tR ?_ | with_reducible refine K.bR ?_ | with_reducible refine K.gR ?_ | with_reducible refine K.r1 (by with_unfolding_all rfl) (by with_unfolding_all rfl) ?_)
        all_goals first
          | (exfalso; simp at h; done)
          | skip
        exact ⟨rfl, trivial, (Weak.mk [some 0, some 1, some 2, some 3, some 4, some 5] _ _ _ U U U U (by (repeat' (first | exact trivial | refine And.intro ?_ ?_ | refine ⟨_, U, _, U, ?_⟩ | exact VLe.refl _)); done) (by (repeat' (first | exact trivial | refine And.intro ?_ ?_ | refine ⟨_, U, _, U, _, U, ?_⟩ | exact VLe.refl _)); done))⟩
      · intro _
        repeat' (first | ((with_reducible refine D.nil ?_); refine AX.nilL ?_) | ((with_reducible refine D.load ?_); first | refine L.ldb U U U U U U ?_ | refine AX.sk U U ?_) | ((with_reducible refine D.move ?_); first | refine L.mv U U U ?_ | refine AX.sk U U ?_ | ((fail_if_success refine AX.wt U ?_); refine AX.gs U U (fun _ => trivial) (fun h => ?_) (fun h => ?_))) | ((with_reducible refine D.assign ?_); refine L.asg U U U ?_) | ((with_reducible refine D.bin ?_); refine L.bn U U U U U ?_) | ((with_reducible refine D.call ?_); first | refine L.c2 (hp1) U U U U ?_ | refine L.c2 (hp2) U U U U ?_ | refine L.c2 (hq1) U U U U ?_ | refine L.c2 (hq2) U U U U ?_ | refine L.c2 (hq3) U U U U ?_ | refine AX.sk U U ?_) | ((with_reducible refine D.extract ?_); refine L.ex U U U U ?_) | ((with_reducible refine D.alloc ?_); refine L.al U U U ?_) | ((with_reducible refine D.store ?_); refine L.st U U U U U U U U U ?_) | ((with_reducible refine D.not ?_); first | refine L.nt U U U ?_ | refine AX.sk U U ?_) | ((with_reducible refine D.pick ?_); refine L.pk U U U U ?_) | ((with_reducible refine D.aw ?_); first | refine K.sq (AW.regL ?_) | refine AW.condT U ?_ | refine AW.condF U ?_ | refine AW.skip ?_ | refine AW.ret ?_) | with_reducible refine K.tN ?_ | with_reducible refine K.bN ?_ | with_reducible refine K.tR ?_ | with_reducible refine K.bR ?_ | with_reducible refine K.gR ?_ | with_reducible refine K.r1 (by with_unfolding_all rfl) (by with_unfolding_all rfl) ?_)
        all_goals first
          | (exfalso; simp at h; done)
          | skip
        exact ⟨rfl, trivial, (Weak.mk [some 0, some 1, some 2, some 3, some 4] _ _ _ U U U U (by (repeat' (first | exact trivial | refine And.intro ?_ ?_ | refine ⟨_, U, _, U, ?_⟩ | exact VLe.refl _)); done) (by (repeat' (first | exact trivial | refine And.intro ?_ ?_ | refine ⟨_, U, _, U, _, U, ?_⟩ | exact VLe.refl _)); done))⟩
  · intro _
    repeat' (first | ((with_reducible refine D.nil ?_); refine AX.nilL ?_) | ((with_reducible refine D.assign ?_); refine L.asg U U U ?_) | ((with_reducible refine D.aw ?_); first | refine K.sq (AW.regL ?_) | refine AW.ret ?_) | with_reducible refine K.tN ?_ | with_reducible refine K.r1 (by with_unfolding_all rfl) (by with_unfolding_all rfl) ?_)
    rfl
end Go.Ab
