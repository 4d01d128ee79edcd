/- A part of the proofs of this seat's statements: S56, S48, S49, S50, S51, S52, S53, S57, S58. It has no conditions of its own. -/
import Derived.Test.YthenpnfgkgglcaaGreatDoorS2
import Derived.Test.YthenpnfgkgglcaaGreatDoorD1
import Derived.Test.YthenpnfgkgglcaaGreatDoorA2
namespace Go.Ab
open Go Go.Proofs
set_option maxRecDepth 100000
set_option maxHeartbeats 4000000
set_option linter.all false
theorem ftyped_c : ∀ (n : Nat) (f : Fm) (g : List Ty), f.full ≤ n → n < 100000000 → f.shape = true → (∀ x ∈ g, x.err = 0) → g.length + n < 274877906944 → g.length + f.size < 100000 → PC E 112 [.s .ty g, .agg f.view] (.i (f.tyE g)) := by
  intro n
  induction n with
  | zero => intro f g h; have := f.full_pos; omega
  | succ n ih =>
  intro f g hsz hn hs hg hgl hgz
  have hsz' := f.full_eq
  have hse := f.size_eq
  have hlen := lsum_len Fm.full Fm.full_pos f.args
  have hlen2 := lsum_len Tm.full Tm.full_pos f.terms
  have he := Fm.tyE_eq g f
  have hq := rquant_c f.kind
  refine AC.mk Tryz.func112 rfl rfl rfl rfl rfl (Nat.le_of_ble_eq_true rfl) ?_
  repeat' (first | ((with_reducible refine D.nil ?_); refine AX.nilL ?_) | ((with_reducible refine D.load ?_); refine L.ldb rfl rfl rfl rfl rfl rfl ?_) | ((with_reducible refine D.move ?_); refine L.mv rfl rfl rfl ?_) | ((with_reducible refine D.fieldAddr ?_); refine L.fab rfl rfl rfl rfl rfl ?_) | ((with_reducible refine D.assign ?_); refine L.asg rfl rfl rfl ?_) | ((with_reducible refine D.call ?_); refine L.lnt rfl rfl rfl rfl ?_) | ((with_reducible refine D.box ?_); refine L.bx rfl rfl rfl rfl ?_) | ((with_reducible refine D.aw ?_); first | refine K.sq (AW.regL ?_) | refine K.sq (K.sq ?_) | refine AW.regL ?_) | with_reducible refine K.tN ?_)
  refine AW.range f.terms.length (fun m => ∀ j (hj : j < f.terms.length), j < m → tE g f.terms[j] = 0)
    (fun m => ([(0, .s .ty g), (3, .ptr 0 0), (13, .s .tm f.terms), (14, .i f.terms.length), (15, .i m)], ⟨1, [(0, .var f.view)]⟩))
    (by omega) (fun m => rfl) (fun m => rfl) rfl (fun j hj h => by omega) (Weak.mk [some 0] _ _ _ rfl rfl rfl rfl (by (repeat' (first | exact trivial | refine And.intro ?_ ?_ | refine ⟨_, rfl, _, rfl, ?_⟩ | exact VLe.refl _)); done) (by (repeat' (first | exact trivial | refine And.intro ?_ ?_ | refine ⟨_, rfl, _, rfl, _, rfl, ?_⟩ | exact VLe.refl _)); done)) ?_ ?_
  · intro m hm hP
    have hs2 := lsum_mem Tm.full (List.getElem_mem hm)
    have hc := typed_c' g f.terms[m] (by omega) hg (by omega)
    have hfi : tE g f.terms[m] ≠ 0 → f.tyE g = tE g f.terms[m] := fun hx => by
      have h1 := firstI_at hm hP hx
      rw [he, h1, if_pos hx]
    by_cases hx : (typed g f.terms[m]).2 = 0
    · by_cases hk : (typed g f.terms[m]).1.kind = 1
      · have ht : tE g f.terms[m] = 0 := by simp [tE, hx, hk]
        rw [hx] at hc
        repeat' (first | ((with_reducible refine D.nil ?_); refine AX.nilL ?_) | ((with_reducible refine D.load ?_); first | refine L.ldb rfl rfl rfl rfl rfl rfl ?_ | refine L.lda rfl rfl rfl rfl rfl ?_) | ((with_reducible refine D.move ?_); refine L.mv rfl rfl rfl ?_) | ((with_reducible refine D.fieldAddr ?_); refine L.fab rfl rfl rfl rfl rfl ?_) | ((with_reducible refine D.assign ?_); refine L.asg rfl rfl rfl ?_) | ((with_reducible refine D.bin ?_); refine L.bn rfl rfl rfl rfl rfl ?_) | ((with_reducible refine D.call ?_); refine L.c2 (hc) rfl rfl rfl rfl ?_) | ((with_reducible refine D.extract ?_); refine L.ex rfl rfl rfl rfl ?_) | ((with_reducible refine D.alloc ?_); refine L.al rfl rfl rfl ?_) | ((with_reducible refine D.store ?_); refine L.st rfl rfl rfl rfl rfl rfl rfl rfl rfl ?_) | ((with_reducible refine D.indexAddr ?_); refine L.ixt _ rfl rfl rfl rfl rfl rfl rfl (by assumption) ?_) | ((with_reducible refine D.aw ?_); first | refine K.sq (AW.regL ?_) | refine K.sq (K.sq ?_) | refine AW.regL ?_ | refine AW.condF rfl ?_ | refine AW.condS rfl (fun h => ?_) (fun h => ?_) | refine AW.skip ?_ | refine AW.ret ?_) | with_reducible refine K.tN ?_ | with_reducible refine K.bN ?_ | with_reducible refine K.tR ?_ | with_reducible refine K.bR ?_ | with_reducible refine K.gR ?_ | with_reducible refine K.r1 (by with_unfolding_all rfl) (by with_unfolding_all rfl) ?_)
        · exfalso; simp at h; exact h hk
        · exact ⟨rfl, all_step (p := fun t' => tE g t' = 0) hm hP ht, (Weak.mk [some 0] _ _ _ rfl rfl rfl rfl (by (repeat' (first | exact trivial | refine And.intro ?_ ?_ | refine ⟨_, rfl, _, rfl, ?_⟩ | exact VLe.refl _)); done) (by (repeat' (first | exact trivial | refine And.intro ?_ ?_ | refine ⟨_, rfl, _, rfl, _, rfl, ?_⟩ | exact VLe.refl _)); done))⟩
      · have ht : tE g f.terms[m] = 7 := by simp [tE, hx, hk]
        rw [ht] at hfi
        rw [hfi (by decide)]
        rw [hx] at hc
        repeat' (first | ((with_reducible refine D.nil ?_); refine AX.nilL ?_) | ((with_reducible refine D.load ?_); first | refine L.ldb rfl rfl rfl rfl rfl rfl ?_ | refine L.lda rfl rfl rfl rfl rfl ?_) | ((with_reducible refine D.move ?_); refine L.mv rfl rfl rfl ?_) | ((with_reducible refine D.fieldAddr ?_); refine L.fab rfl rfl rfl rfl rfl ?_) | ((with_reducible refine D.assign ?_); refine L.asg rfl rfl rfl ?_) | ((with_reducible refine D.bin ?_); refine L.bn rfl rfl rfl rfl rfl ?_) | ((with_reducible refine D.call ?_); refine L.c2 (hc) rfl rfl rfl rfl ?_) | ((with_reducible refine D.extract ?_); refine L.ex rfl rfl rfl rfl ?_) | ((with_reducible refine D.alloc ?_); refine L.al rfl rfl rfl ?_) | ((with_reducible refine D.store ?_); refine L.st rfl rfl rfl rfl rfl rfl rfl rfl rfl ?_) | ((with_reducible refine D.indexAddr ?_); refine L.ixt _ rfl rfl rfl rfl rfl rfl rfl (by assumption) ?_) | ((with_reducible refine D.aw ?_); first | refine K.sq (AW.regL ?_) | refine K.sq (K.sq ?_) | refine AW.regL ?_ | refine AW.condF rfl ?_ | refine AW.condS rfl (fun h => ?_) (fun h => ?_) | refine AW.skip ?_ | refine AW.ret ?_) | with_reducible refine K.tN ?_ | with_reducible refine K.bN ?_ | with_reducible refine K.tR ?_ | with_reducible refine K.bR ?_ | with_reducible refine K.gR ?_ | with_reducible refine K.r1 (by with_unfolding_all rfl) (by with_unfolding_all rfl) ?_)
        · rfl
        · exfalso; simp at h; exact hk h
    · have ht : tE g f.terms[m] = (typed g f.terms[m]).2 := by simp [tE, hx]
      rw [ht] at hfi
      rw [hfi hx]
      repeat' (first | ((with_reducible refine D.nil ?_); refine AX.nilL ?_) | ((with_reducible refine D.load ?_); first | refine L.ldb rfl rfl rfl rfl rfl rfl ?_ | refine L.lda rfl rfl rfl rfl rfl ?_) | ((with_reducible refine D.move ?_); refine L.mv rfl rfl rfl ?_) | ((with_reducible refine D.fieldAddr ?_); refine L.fab rfl rfl rfl rfl rfl ?_) | ((with_reducible refine D.assign ?_); refine L.asg rfl rfl rfl ?_) | ((with_reducible refine D.bin ?_); refine L.bn rfl rfl rfl rfl rfl ?_) | ((with_reducible refine D.call ?_); refine L.c2 (hc) rfl rfl rfl rfl ?_) | ((with_reducible refine D.extract ?_); refine L.ex rfl rfl rfl rfl ?_) | ((with_reducible refine D.alloc ?_); refine L.al rfl rfl rfl ?_) | ((with_reducible refine D.store ?_); refine L.st rfl rfl rfl rfl rfl rfl rfl rfl rfl ?_) | ((with_reducible refine D.indexAddr ?_); refine L.ixt _ rfl rfl rfl rfl rfl rfl rfl (by assumption) ?_) | ((with_reducible refine D.aw ?_); first | refine K.sq (AW.regL ?_) | refine K.sq (K.sq ?_) | refine AW.regL ?_ | refine AW.condS rfl (fun h => ?_) (fun h => ?_) | refine AW.skip ?_ | refine AW.ret ?_) | with_reducible refine K.tN ?_ | with_reducible refine K.bN ?_ | with_reducible refine K.tR ?_ | with_reducible refine K.bR ?_ | with_reducible refine K.gR ?_ | with_reducible refine K.r1 (by with_unfolding_all rfl) (by with_unfolding_all rfl) ?_)
      · rfl
      all_goals (exfalso; simp_all)
  · intro hP
    have h0 : firstI (tE g) f.terms = 0 := firstI_none fun j hj _ => hP j hj hj
    rw [if_neg (by simp [h0])] at he
    have htyl := f.ty.size_pos
    have hrest : ∀ g', g' = ctxF g f → (∀ x ∈ g', x.err = 0) ∧ g'.length ≤ g.length + 1 ∧ ∀ (m : Nat) (hm : m < f.args.length), PC E 112 [.s .ty g', .agg f.args[m].view] (.i (f.args[m].tyE g')) := fun g' hg' => by
      have hl : g'.length ≤ g.length + 1 := by rw [hg']; simp only [ctxF]; split <;> simp
      have hee : ∀ x ∈ g', x.err = 0 := fun x hx => by
        rw [hg'] at hx
        simp only [ctxF] at hx
        split at hx
        · rename_i hqk
          rcases List.mem_append.1 hx with hx | hx
          · exact hg x hx
          · rw [List.mem_singleton] at hx; subst hx
            have h1 := fshapeQu hqk
            rw [hs] at h1
            have h2 : f.ty.ok = true := by
              cases ho : f.ty.ok with
              | true => rfl
              | false => rw [ho] at h1; simp at h1
            rw [tyok_err] at h2
            simpa using h2
        · exact hg x hx
      refine ⟨hee, hl, fun m hm => ?_⟩
      have hs2 := lsum_mem Fm.full (List.getElem_mem hm)
      have hs3 := lsum_mem Fm.size (List.getElem_mem hm)
      exact ih f.args[m] g' (by omega) (by omega) (fshape_args hs (List.getElem_mem hm)) hee (by omega) (by omega)
    cases hqk : quantK f.kind with
    | true =>
      rw [hqk] at hq
      have hcx : ctxF g f = g ++ [f.ty] := ctxF_q hqk
      obtain ⟨_, _, hcall⟩ := hrest (g ++ [f.ty]) hcx.symm
      rw [hcx] at he
      repeat' (first | ((with_reducible refine D.nil ?_); first | refine AX.nilL ?_ | refine AX.nilD (by kernel_rfl) ?_) | ((with_reducible refine D.load ?_); refine L.ldb rfl rfl rfl rfl rfl rfl ?_) | ((with_reducible refine D.move ?_); refine L.mv rfl rfl rfl ?_) | ((with_reducible refine D.fieldAddr ?_); refine L.fab rfl rfl rfl rfl rfl ?_) | ((with_reducible refine D.assign ?_); refine L.asg rfl rfl rfl ?_) | ((with_reducible refine D.call ?_); first | refine L.lnt rfl rfl rfl rfl ?_ | refine L.aptF rfl rfl rfl rfl (by first | assumption | simp) rfl rfl rfl (by first | omega | (simp; omega)) ?_ | refine L.c2 (hq) rfl rfl rfl rfl ?_) | ((with_reducible refine D.ax ?_); first | refine L.bs1 rfl rfl rfl rfl rfl (EC.fold_of rfl) rfl rfl ?_ | refine L.s3 rfl rfl rfl rfl rfl rfl ?_) | ((with_reducible refine D.aw ?_); first | refine K.sq (K.sq ?_) | refine AW.regL ?_ | refine AW.regD mixed (by kernel_rfl) ?_ | refine AW.condT rfl ?_) | with_reducible refine K.tN ?_)
      refine AW.range f.args.length (fun m => ∀ j (hj : j < f.args.length), j < m → f.args[j].tyE (g ++ [f.ty]) = 0)
        (fun m => ([(0, .s .ty (g ++ [f.ty])), (3, .ptr 0 0), (46, .s .fm f.args), (47, .i f.args.length), (48, .i m)], ⟨1, [(0, .var f.view)]⟩))
        (by omega) (fun m => rfl) (fun m => rfl) rfl (fun j hj h => by omega) (Weak.mk [some 0] _ _ _ rfl rfl rfl rfl (by (repeat' (first | exact trivial | refine And.intro ?_ ?_ | refine ⟨_, rfl, _, rfl, ?_⟩ | exact VLe.refl _ | exact VLe.any _ _)); done) (by (repeat' (first | exact trivial | refine And.intro ?_ ?_ | refine ⟨_, rfl, _, rfl, _, rfl, ?_⟩ | exact VLe.refl _)); done)) ?_ ?_
      · intro m hm hP
        have hc := hcall m hm
        by_cases hx : f.args[m].tyE (g ++ [f.ty]) = 0
        · rw [hx] at hc
          repeat' (first | ((with_reducible refine D.nil ?_); refine AX.nilL ?_) | ((with_reducible refine D.load ?_); first | refine L.ldb rfl rfl rfl rfl rfl rfl ?_ | refine L.lda rfl rfl rfl rfl rfl ?_) | ((with_reducible refine D.move ?_); refine L.mv rfl rfl rfl ?_) | ((with_reducible refine D.assign ?_); refine L.asg rfl rfl rfl ?_) | ((with_reducible refine D.bin ?_); refine L.bn rfl rfl rfl rfl rfl ?_) | ((with_reducible refine D.call ?_); refine L.c2 (hc) rfl rfl rfl rfl ?_) | ((with_reducible refine D.alloc ?_); refine L.al rfl rfl rfl ?_) | ((with_reducible refine D.store ?_); refine L.st rfl rfl rfl rfl rfl rfl rfl rfl rfl ?_) | ((with_reducible refine D.indexAddr ?_); refine L.ixt _ rfl rfl rfl rfl rfl rfl rfl (by assumption) ?_) | ((with_reducible refine D.aw ?_); first | refine K.sq (AW.regL ?_) | refine AW.condF rfl ?_ | refine AW.skip ?_) | with_reducible refine K.tN ?_ | with_reducible refine K.bN ?_)
          exact ⟨rfl, all_step (p := fun t' => Fm.tyE (g ++ [f.ty]) t' = 0) hm hP hx, (Weak.mk [some 0] _ _ _ rfl rfl rfl rfl (by (repeat' (first | exact trivial | refine And.intro ?_ ?_ | refine ⟨_, rfl, _, rfl, ?_⟩ | exact VLe.refl _)); done) (by (repeat' (first | exact trivial | refine And.intro ?_ ?_ | refine ⟨_, rfl, _, rfl, _, rfl, ?_⟩ | exact VLe.refl _)); done))⟩
        · rw [he, firstI_at hm hP hx]
          repeat' (first | ((with_reducible refine D.nil ?_); refine AX.nilL ?_) | ((with_reducible refine D.load ?_); first | refine L.ldb rfl rfl rfl rfl rfl rfl ?_ | refine L.lda rfl rfl rfl rfl rfl ?_) | ((with_reducible refine D.move ?_); refine L.mv rfl rfl rfl ?_) | ((with_reducible refine D.assign ?_); refine L.asg rfl rfl rfl ?_) | ((with_reducible refine D.bin ?_); refine L.bn rfl rfl rfl rfl rfl ?_) | ((with_reducible refine D.call ?_); refine L.c2 (hc) rfl rfl rfl rfl ?_) | ((with_reducible refine D.alloc ?_); refine L.al rfl rfl rfl ?_) | ((with_reducible refine D.store ?_); refine L.st rfl rfl rfl rfl rfl rfl rfl rfl rfl ?_) | ((with_reducible refine D.indexAddr ?_); refine L.ixt _ rfl rfl rfl rfl rfl rfl rfl (by assumption) ?_) | ((with_reducible refine D.aw ?_); first | refine K.sq (AW.regL ?_) | refine AW.condS rfl (fun h => ?_) (fun h => ?_) | refine AW.skip ?_ | refine AW.ret ?_) | with_reducible refine K.tN ?_ | with_reducible refine K.bN ?_ | with_reducible refine K.tR ?_ | with_reducible refine K.bR ?_ | with_reducible refine K.gR ?_ | with_reducible refine K.r1 (by with_unfolding_all rfl) (by with_unfolding_all rfl) ?_)
          · rfl
          · exfalso; simp at h; exact hx h
      · intro hP
        rw [he, firstI_none fun j hj _ => hP j hj hj]
        repeat' (first | ((with_reducible refine D.nil ?_); refine AX.nilL ?_) | ((with_reducible refine D.assign ?_); refine L.asg rfl rfl rfl ?_) | ((with_reducible refine D.aw ?_); first | refine K.sq (AW.regL ?_) | refine AW.ret ?_) | with_reducible refine K.tN ?_ | with_reducible refine K.r1 (by with_unfolding_all rfl) (by with_unfolding_all rfl) ?_)
        rfl
    | false =>
      rw [hqk] at hq
      have hcx : ctxF g f = g := ctxF_n (by simp [hqk])
      obtain ⟨_, _, hcall⟩ := hrest g hcx.symm
      rw [hcx] at he
      repeat' (first | ((with_reducible refine D.nil ?_); refine AX.nilL ?_) | ((with_reducible refine D.load ?_); refine L.ldb rfl rfl rfl rfl rfl rfl ?_) | ((with_reducible refine D.move ?_); refine L.mv rfl rfl rfl ?_) | ((with_reducible refine D.fieldAddr ?_); refine L.fab rfl rfl rfl rfl rfl ?_) | ((with_reducible refine D.call ?_); first | refine L.lnt rfl rfl rfl rfl ?_ | refine L.c2 (hq) rfl rfl rfl rfl ?_) | ((with_reducible refine D.aw ?_); first | refine K.sq (K.sq ?_) | refine AW.regL ?_ | refine AW.condF rfl ?_ | refine AW.skip ?_) | with_reducible refine K.tN ?_)
      refine AW.range f.args.length (fun m => ∀ j (hj : j < f.args.length), j < m → f.args[j].tyE g = 0)
        (fun m => ([(0, .s .ty g), (3, .ptr 0 0), (46, .s .fm f.args), (47, .i f.args.length), (48, .i m)], ⟨1, [(0, .var f.view)]⟩))
        (by omega) (fun m => rfl) (fun m => rfl) rfl (fun j hj h => by omega) (Weak.mk [some 0] _ _ _ rfl rfl rfl rfl (by (repeat' (first | exact trivial | refine And.intro ?_ ?_ | refine ⟨_, rfl, _, rfl, ?_⟩ | exact VLe.refl _)); done) (by (repeat' (first | exact trivial | refine And.intro ?_ ?_ | refine ⟨_, rfl, _, rfl, _, rfl, ?_⟩ | exact VLe.refl _)); done)) ?_ ?_
      · intro m hm hP
        have hc := hcall m hm
        by_cases hx : f.args[m].tyE g = 0
        · rw [hx] at hc
          repeat' (first | ((with_reducible refine D.nil ?_); refine AX.nilL ?_) | ((with_reducible refine D.load ?_); first | refine L.ldb rfl rfl rfl rfl rfl rfl ?_ | refine L.lda rfl rfl rfl rfl rfl ?_) | ((with_reducible refine D.move ?_); refine L.mv rfl rfl rfl ?_) | ((with_reducible refine D.assign ?_); refine L.asg rfl rfl rfl ?_) | ((with_reducible refine D.bin ?_); refine L.bn rfl rfl rfl rfl rfl ?_) | ((with_reducible refine D.call ?_); refine L.c2 (hc) rfl rfl rfl rfl ?_) | ((with_reducible refine D.alloc ?_); refine L.al rfl rfl rfl ?_) | ((with_reducible refine D.store ?_); refine L.st rfl rfl rfl rfl rfl rfl rfl rfl rfl ?_) | ((with_reducible refine D.indexAddr ?_); refine L.ixt _ rfl rfl rfl rfl rfl rfl rfl (by assumption) ?_) | ((with_reducible refine D.aw ?_); first | refine K.sq (AW.regL ?_) | refine AW.condF rfl ?_ | refine AW.skip ?_) | with_reducible refine K.tN ?_ | with_reducible refine K.bN ?_)
          exact ⟨rfl, all_step (p := fun t' => Fm.tyE g t' = 0) hm hP hx, (Weak.mk [some 0] _ _ _ rfl rfl rfl rfl (by (repeat' (first | exact trivial | refine And.intro ?_ ?_ | refine ⟨_, rfl, _, rfl, ?_⟩ | exact VLe.refl _)); done) (by (repeat' (first | exact trivial | refine And.intro ?_ ?_ | refine ⟨_, rfl, _, rfl, _, rfl, ?_⟩ | exact VLe.refl _)); done))⟩
        · rw [he, firstI_at hm hP hx]
          repeat' (first | ((with_reducible refine D.nil ?_); refine AX.nilL ?_) | ((with_reducible refine D.load ?_); first | refine L.ldb rfl rfl rfl rfl rfl rfl ?_ | refine L.lda rfl rfl rfl rfl rfl ?_) | ((with_reducible refine D.move ?_); refine L.mv rfl rfl rfl ?_) | ((with_reducible refine D.assign ?_); refine L.asg rfl rfl rfl ?_) | ((with_reducible refine D.bin ?_); refine L.bn rfl rfl rfl rfl rfl ?_) | ((with_reducible refine D.call ?_); refine L.c2 (hc) rfl rfl rfl rfl ?_) | ((with_reducible refine D.alloc ?_); refine L.al rfl rfl rfl ?_) | ((with_reducible refine D.store ?_); refine L.st rfl rfl rfl rfl rfl rfl rfl rfl rfl ?_) | ((with_reducible refine D.indexAddr ?_); refine L.ixt _ rfl rfl rfl rfl rfl rfl rfl (by assumption) ?_) | ((with_reducible refine D.aw ?_); first | refine K.sq (AW.regL ?_) | refine AW.condS rfl (fun h => ?_) (fun h => ?_) | refine AW.skip ?_ | refine AW.ret ?_) | with_reducible refine K.tN ?_ | with_reducible refine K.bN ?_ | with_reducible refine K.tR ?_ | with_reducible refine K.bR ?_ | with_reducible refine K.gR ?_ | with_reducible refine K.r1 (by with_unfolding_all rfl) (by with_unfolding_all rfl) ?_)
          · rfl
          · exfalso; simp at h; exact hx h
      · intro hP
        rw [he, firstI_none fun j hj _ => hP j hj hj]
        repeat' (first | ((with_reducible refine D.nil ?_); refine AX.nilL ?_) | ((with_reducible refine D.assign ?_); refine L.asg rfl rfl rfl ?_) | ((with_reducible refine D.aw ?_); first | refine K.sq (AW.regL ?_) | refine AW.ret ?_) | with_reducible refine K.tN ?_ | with_reducible refine K.r1 (by with_unfolding_all rfl) (by with_unfolding_all rfl) ?_)
        rfl
theorem fBelow_c (g : List Ty) (f : Fm) (hf : f.full < 549755813888) (hg : ∀ x ∈ g, x.err = 0) (hgl : g.length < 90000) : PC E 54 [.s .ty g, .agg f.view] (.i (typedF g f)) := by
  have h1 := fcheckR_c f hf
  by_cases he : f.err = 0
  · have h2 := (Fm.err_iff f).1 he
    have h3 := ferr_full he
    have h4 := ftyped_c _ f g (Nat.le_refl _) (by omega) h2.1 hg (by omega) (by omega)
    have e : typedF g f = f.tyE g := by simp only [typedF]; rw [if_neg (by simp [he])]
    rw [he] at h1
    rw [e]
    refine AC.mk Tryz.func54 rfl rfl rfl rfl rfl (Nat.le_of_ble_eq_true rfl) ?_
    repeat' (first | ((with_reducible refine D.nil ?_); refine AX.nilL ?_) | ((with_reducible refine D.load ?_); refine L.ldb rfl rfl rfl rfl rfl rfl ?_) | ((with_reducible refine D.move ?_); refine L.mv rfl rfl rfl ?_) | ((with_reducible refine D.assign ?_); refine L.asg rfl rfl rfl ?_) | ((with_reducible refine D.bin ?_); refine L.bn rfl rfl rfl rfl rfl ?_) | ((with_reducible refine D.call ?_); first | refine L.c2 (h1) rfl rfl rfl rfl ?_ | refine L.c2 (h4) rfl rfl rfl rfl ?_) | ((with_reducible refine D.box ?_); refine L.bx rfl rfl rfl rfl ?_) | ((with_reducible refine D.aw ?_); first | refine K.sq (AW.regL ?_) | refine K.sq (K.sq ?_) | refine AW.regL ?_ | refine AW.condF rfl ?_ | refine AW.skip ?_ | refine AW.ret ?_) | with_reducible refine K.tN ?_ | with_reducible refine K.r1 (by with_unfolding_all rfl) (by with_unfolding_all rfl) ?_)
    rfl
  · have e : typedF g f = f.err := by simp only [typedF]; rw [if_pos he]
    rw [e]
    refine AC.mk Tryz.func54 rfl rfl rfl rfl rfl (Nat.le_of_ble_eq_true rfl) ?_
    repeat' (first | ((with_reducible refine D.nil ?_); refine AX.nilL ?_) | ((with_reducible refine D.load ?_); refine L.ldb rfl rfl rfl rfl rfl rfl ?_) | ((with_reducible refine D.move ?_); refine L.mv rfl rfl rfl ?_) | ((with_reducible refine D.assign ?_); refine L.asg rfl rfl rfl ?_) | ((with_reducible refine D.bin ?_); refine L.bn rfl rfl rfl rfl rfl ?_) | ((with_reducible refine D.call ?_); refine L.c2 (h1) rfl rfl rfl rfl ?_) | ((with_reducible refine D.box ?_); refine L.bx rfl rfl rfl rfl ?_) | ((with_reducible refine D.aw ?_); first | refine K.sq (AW.regL ?_) | refine K.sq (K.sq ?_) | refine AW.regL ?_ | refine AW.condS rfl (fun h => ?_) (fun h => ?_) | refine AW.skip ?_ | refine AW.ret ?_) | with_reducible refine K.tN ?_ | with_reducible refine K.tR ?_ | with_reducible refine K.r1 (by with_unfolding_all rfl) (by with_unfolding_all rfl) ?_)
    · rfl
    · exfalso; simp at h; exact he h
theorem fTyped_c (g : List Ty) (f : Fm) (hf : f.full < 549755813888) (hg : (g.map Ty.size).sum < 1099511627776) : PC E 15 [.s .ty g, .agg f.view] (.i (typedFC g f)) := by
  have h1 := contextR_c g hg
  by_cases he : ctxErr g = 0
  · have h2 := ctxErr_all he
    have h4 := fBelow_c g f hf h2.2 (by omega)
    have e : typedFC g f = typedF g f := by simp only [typedFC]; rw [if_neg (by simp [he])]
    rw [he] at h1
    rw [e]
    refine AC.mk Tryz.func15 rfl rfl rfl rfl rfl (Nat.le_of_ble_eq_true rfl) ?_
    repeat' (first | ((with_reducible refine D.nil ?_); refine AX.nilL ?_) | ((with_reducible refine D.load ?_); refine L.ldb rfl rfl rfl rfl rfl rfl ?_) | ((with_reducible refine D.move ?_); refine L.mv rfl rfl rfl ?_) | ((with_reducible refine D.assign ?_); refine L.asg rfl rfl rfl ?_) | ((with_reducible refine D.bin ?_); refine L.bn rfl rfl rfl rfl rfl ?_) | ((with_reducible refine D.call ?_); first | refine L.c2 (h1) rfl rfl rfl rfl ?_ | refine L.c2 (h4) rfl rfl rfl rfl ?_) | ((with_reducible refine D.box ?_); refine L.bx rfl rfl rfl rfl ?_) | ((with_reducible refine D.aw ?_); first | refine K.sq (AW.regL ?_) | refine K.sq (K.sq ?_) | refine AW.regL ?_ | refine AW.condF rfl ?_ | refine AW.skip ?_ | refine AW.ret ?_) | with_reducible refine K.tN ?_ | with_reducible refine K.r1 (by with_unfolding_all rfl) (by with_unfolding_all rfl) ?_)
    rfl
  · have e : typedFC g f = ctxErr g := by simp only [typedFC]; rw [if_pos he]
    rw [e]
    refine AC.mk Tryz.func15 rfl rfl rfl rfl rfl (Nat.le_of_ble_eq_true rfl) ?_
    repeat' (first | ((with_reducible refine D.nil ?_); refine AX.nilL ?_) | ((with_reducible refine D.load ?_); refine L.ldb rfl rfl rfl rfl rfl rfl ?_) | ((with_reducible refine D.move ?_); refine L.mv rfl rfl rfl ?_) | ((with_reducible refine D.assign ?_); refine L.asg rfl rfl rfl ?_) | ((with_reducible refine D.bin ?_); refine L.bn rfl rfl rfl rfl rfl ?_) | ((with_reducible refine D.call ?_); refine L.c2 (h1) rfl rfl rfl rfl ?_) | ((with_reducible refine D.box ?_); refine L.bx rfl rfl rfl rfl ?_) | ((with_reducible refine D.aw ?_); first | refine K.sq (AW.regL ?_) | refine K.sq (K.sq ?_) | refine AW.regL ?_ | refine AW.condS rfl (fun h => ?_) (fun h => ?_) | refine AW.skip ?_ | refine AW.ret ?_) | with_reducible refine K.tN ?_ | with_reducible refine K.tR ?_ | with_reducible refine K.r1 (by with_unfolding_all rfl) (by with_unfolding_all rfl) ?_)
    · rfl
    · exfalso; simp at h; exact he h
end Go.Ab
namespace Go.Ab
open Go Go.Proofs
set_option maxRecDepth 100000
set_option maxHeartbeats 4000000
set_option linter.all false
theorem keyAt_none {k : Int} : ∀ {l : List Int}, k ∉ l → keyAt k l = none
  | [], _ => rfl
  | x :: l, h => by
    have h1 : ¬ x = k := fun e => h (by simp [e])
    have h2 : k ∉ l := fun hm => h (by simp [hm])
    simp only [keyAt, if_neg h1, keyAt_none h2, Option.map_none]
theorem keyAt_mem {k : Int} : ∀ {l : List Int}, k ∈ l → ∃ i, keyAt k l = some i
  | [], h => by cases h
  | x :: l, h => by
    by_cases h1 : x = k
    · exact ⟨0, by simp only [keyAt, if_pos h1]⟩
    · obtain ⟨i, hi⟩ := keyAt_mem (l := l) (by
        rcases List.mem_cons.1 h with h2 | h2
        · exact absurd h2.symm h1
        · exact h2)
      exact ⟨i + 1, by simp only [keyAt, if_neg h1, hi, Option.map_some]⟩
theorem lowered_c (t : Tm) (b : Int) (hb : 0 ≤ b ∧ b < 549755813888) (hs : t.shape = true) (hf : t.full < 137438953472) (hC : ∀ q ∈ t.vars 0, q.1 ≤ 268435456) : PC E 144 [.agg t.view, .i b] (.tup [.agg (low b.toNat t).1.view, .bool (low b.toNat t).2]) := by
  have hbn : (b.toNat : Int) = b := by omega
  refine AC.mk Tryz.func144 rfl rfl rfl rfl rfl (Nat.le_of_ble_eq_true rfl) ?_
  repeat' (first | ((with_reducible refine D.nil ?_); refine AX.nilL ?_) | ((with_reducible refine D.move ?_); refine L.mv rfl rfl rfl ?_) | ((with_reducible refine D.assign ?_); refine L.asg rfl rfl rfl ?_) | ((with_reducible refine D.box ?_); refine L.bx rfl rfl rfl rfl ?_) | ((with_reducible refine D.alloc ?_); refine L.al rfl rfl rfl ?_) | ((with_reducible refine D.aw ?_); first | refine K.sq (AW.regL ?_) | refine K.sq (K.sq ?_) | refine AW.regL ?_) | with_reducible refine K.tN ?_)
  refine AW.range b.toNat (fun m => ∀ j, j < m → cnt 0 ((lowI j t).vars 0) = 0)
    (fun m => ([(2, .ptr 0 0), (4, .ptr 1 0), (6, .i b), (7, .i m)], ⟨2, [(0, .var (lowI m t).view), (1, .var [.i 0, .i 0, .i 0, .slice .nil (.t .ty []), .slice .nil (.t .tm [])])]⟩))
    (by omega) (fun m => rfl) (fun m => by rw [← hbn]; rfl) rfl (by intro j hj; omega) (Weak.mk [some 0, some 1] _ _ _ rfl rfl rfl rfl (by (repeat' (first | exact trivial | refine And.intro ?_ ?_ | refine ⟨_, rfl, _, rfl, ?_⟩ | exact VLe.refl _)); done) (by (repeat' (first | exact trivial | refine And.intro ?_ ?_ | refine ⟨_, rfl, _, rfl, _, rfl, ?_⟩ | exact VLe.refl _)); done)) ?_ ?_
  · intro m hm hP
    obtain ⟨h1, h2, h3⟩ := lowI_ok hs hC m hP
    have hc := count_c (lowI m t) 0 (by omega) fun p hp => ⟨(lowI m t).vars_nonneg h1 0 p hp, by have := h3 p hp; omega⟩
    have hp := put_c (lowI m t) 0 noTm (by omega) (by decide) (by intro p hp; simp [noTm, Tm.vars, Tm.varss] at hp) (by omega) fun p hp => ⟨(lowI m t).vars_nonneg h1 0 p hp, by have := h3 p hp; omega⟩
    repeat' (first | ((with_reducible refine D.nil ?_); refine AX.nilL ?_) | ((with_reducible refine D.load ?_); refine L.ldb rfl rfl rfl rfl rfl rfl ?_) | ((with_reducible refine D.assign ?_); refine L.asg rfl rfl rfl ?_) | ((with_reducible refine D.bin ?_); refine L.bn rfl rfl rfl rfl rfl ?_) | ((with_reducible refine D.call ?_); first | refine L.c2 (hc) rfl rfl rfl rfl ?_ | refine L.c2 (hp) rfl rfl rfl rfl ?_) | ((with_reducible refine D.store ?_); refine L.st rfl rfl rfl rfl rfl rfl rfl rfl rfl ?_) | ((with_reducible refine D.ax ?_); refine L.bd rfl rfl rfl rfl rfl ?_) | ((with_reducible refine D.aw ?_); first | refine K.sq (AW.regL ?_) | refine K.sq (K.sq ?_) | refine AW.regL ?_ | refine AW.condS rfl (fun h => ?_) (fun h => ?_) | refine AW.skip ?_ | refine AW.ret ?_) | with_reducible refine K.tN ?_ | with_reducible refine K.bN ?_ | with_reducible refine K.tR ?_ | with_reducible refine K.bR ?_ | with_reducible refine K.gR ?_ | with_reducible refine K.r1 (by with_unfolding_all rfl) (by with_unfolding_all rfl) ?_)
    · have e : low b.toNat t = (noTm, false) := by
        simp only [low]
        rw [if_neg]
        intro hc
        have := hc m hm
        simp at h; omega
      rw [e]
      simp [tupV, V.wk, V.wks, constV, Ty.view, Tm.view, noTm]
    · refine ⟨rfl, ?_, (Weak.mk [some 0, some 1] _ _ _ rfl rfl rfl rfl (by (repeat' (first | exact trivial | refine And.intro ?_ ?_ | refine ⟨_, rfl, _, rfl, ?_⟩ | exact VLe.refl _)); done) (by (repeat' (first | exact trivial | refine And.intro ?_ ?_ | refine ⟨_, rfl, _, rfl, _, rfl, ?_⟩ | exact VLe.refl _)); done))⟩
      intro j hj
      by_cases hjm : j = m
      · subst hjm; simp at h; omega
      · exact hP j (by omega)
  · intro hP
    have e : low b.toNat t = (lowI b.toNat t, true) := by simp only [low]; rw [if_pos hP]
    rw [e]
    repeat' (first | ((with_reducible refine D.nil ?_); refine AX.nilL ?_) | ((with_reducible refine D.load ?_); refine L.ldb rfl rfl rfl rfl rfl rfl ?_) | ((with_reducible refine D.assign ?_); refine L.asg rfl rfl rfl ?_) | ((with_reducible refine D.store ?_); refine L.st rfl rfl rfl rfl rfl rfl rfl rfl rfl ?_) | ((with_reducible refine D.aw ?_); first | refine K.sq (AW.regL ?_) | refine AW.ret ?_) | with_reducible refine K.tN ?_ | with_reducible refine K.r1 (by with_unfolding_all rfl) (by with_unfolding_all rfl) ?_)
    simp [tupV, V.wk, V.wks, constV, Ty.view, Tm.view]
end Go.Ab
namespace Go.Ab
open Go Go.Proofs
set_option maxRecDepth 100000
set_option maxHeartbeats 4000000
set_option linter.all false
theorem ibeq (a b : Int) : (a == b) = decide (a = b) := by by_cases h : a = b <;> simp [h]
theorem termM_c (ho : Int) (hh : 0 ≤ ho ∧ ho ≤ 4096) : ∀ (n : Nat) (p t : Tm) (m : FMap) (b : Int), p.full ≤ n → n < 137438953472 → 0 ≤ b → b + n < 274877906944 → p.shape = true → t.shape = true → t.full < 137438953472 →
    (∀ q ∈ p.vars 0, q.1 ≤ 268435456) → (∀ q ∈ t.vars 0, q.1 ≤ 268435456) →
    AC E 105 [.ptr 0 0, .agg p.view, .agg t.view, .i b] ⟨2, [(0, .var [.i ho, .mp 1]), (1, .map .tm (m.map (·.1)) (m.map (·.2)))]⟩ (.bool (mT ho b p t m).1)
      ⟨2, [(0, .var [.i ho, .mp 1]), (1, .map .tm ((mT ho b p t m).2.map (·.1)) ((mT ho b p t m).2.map (·.2)))]⟩ := by
  intro n
  induction n with
  | zero => intro p; intros; have := p.full_pos; omega
  | succ n ih =>
  intro p t m b hsz hn hb hbn hps hts htf hpv htv
  have hsz' := p.full_eq
  have hlen := lsum_len Tm.full Tm.full_pos p.args
  have hmt := mT_eq ho b p t m
  have hpi : 0 ≤ p.index ∧ p.index ≤ 268435456 := by
    have h0 := shape_index hps
    by_cases hk : p.kind = 1
    · have h1 : (p.index, (0 : Int)) ∈ p.vars 0 := by rw [p.vars_eq, if_pos hk]; simp
      exact ⟨h0.1, hpv _ h1⟩
    · have := h0.2 hk; omega
  have hlow := lowered_c t b (by omega) hts htf htv
  have hty := sameTy2_c _ p.ty t.ty (Nat.le_refl _) (by omega)
  refine AC.mk Tryz.func105 rfl rfl rfl rfl rfl (Nat.le_of_ble_eq_true rfl) ?_
  repeat' (first | ((with_reducible refine D.nil ?_); refine AX.nilL ?_) | ((with_reducible refine D.load ?_); refine L.ldb rfl rfl rfl rfl rfl rfl ?_) | ((with_reducible refine D.move ?_); refine L.mv rfl rfl rfl ?_) | ((with_reducible refine D.fieldAddr ?_); refine L.fab rfl rfl rfl rfl rfl ?_) | ((with_reducible refine D.assign ?_); refine L.asg rfl rfl rfl ?_) | ((with_reducible refine D.bin ?_); refine L.sb rfl rfl rfl rfl (by omega) ?_) | ((with_reducible refine D.box ?_); refine L.bx rfl rfl rfl rfl ?_) | ((with_reducible refine D.aw ?_); (fail_if_success with_reducible refine D.stopR (id := 2) ?_); (fail_if_success with_reducible refine D.stopS (id := 2) ?_); first | refine K.sq (AW.regL ?_) | refine K.sq (K.sq ?_) | refine AW.regL ?_) | with_reducible refine K.tN ?_)
  refine AW.cut (ι := Unit) (fun _ => ([(0, .ptr 0 0), (3, .i b), (5, .ptr 2 0), (6, .ptr 3 0), (9, .i (p.index - b)), (34, .bool (decide (p.kind = 1 ∧ 0 ≤ p.index - b ∧ p.index - b < ho)))], ⟨4, [(0, .var [.i ho, .mp 1]), (1, .map .tm (m.map (·.1)) (m.map (·.2))), (2, .var p.view), (3, .var t.view)]⟩)) ?_ ?_
  · clear ih hmt hlow hty hpv htv hsz'
    repeat' (first | ((with_reducible refine D.nil ?_); refine AX.nilL ?_) | ((with_reducible refine D.load ?_); first | refine L.ldb rfl rfl rfl rfl rfl rfl ?_ | refine AX.sk rfl rfl ?_) | ((with_reducible refine D.move ?_); first | refine L.mv rfl rfl rfl ?_ | refine AX.sk rfl rfl ?_ | ((fail_if_success refine AX.wt rfl ?_); refine AX.gs rfl rfl (fun _ => trivial) (fun h => ?_) (fun h => ?_))) | ((with_reducible refine D.fieldAddr ?_); first | refine L.fab rfl rfl rfl rfl rfl ?_ | refine AX.sk rfl rfl ?_) | ((with_reducible refine D.bin ?_); first | refine L.bn rfl rfl rfl rfl rfl ?_ | refine AX.sk rfl rfl ?_) | ((with_reducible refine D.pick ?_); refine L.pk rfl rfl rfl rfl ?_) | ((with_reducible refine D.ax ?_); first | refine L.nc rfl rfl rfl rfl ?_ | refine AX.sk rfl rfl ?_) | ((with_reducible refine D.aw ?_); refine AW.regL ?_))
    · rename_i h0
      simp only [beq_iff_eq, decide_eq_true_eq] at h0 h
      have e : decide (p.kind = 1 ∧ 0 ≤ p.index - b ∧ p.index - b < ho) = decide (p.index - b < ho) := decide_eq_decide.2 (by omega)
      rw [e]
      exact ⟨(), (Weak.mk [some 0, some 1, some 2, some 3] _ _ _ rfl rfl rfl rfl (by (repeat' (first | exact trivial | refine And.intro ?_ ?_ | refine ⟨_, rfl, _, rfl, ?_⟩ | exact VLe.refl _)); done) (by (repeat' (first | exact trivial | refine And.intro ?_ ?_ | refine ⟨_, rfl, _, rfl, _, rfl, ?_⟩ | exact VLe.refl _ | refine ⟨_, rfl, _, _, rfl, ?_, ?_⟩ | with_reducible exact rfl)); done))⟩
    · simp only [decide_eq_false_iff_not] at h
      have e : decide (p.kind = 1 ∧ 0 ≤ p.index - b ∧ p.index - b < ho) = false := decide_eq_false (by omega)
      rw [e]
      exact ⟨(), (Weak.mk [some 0, some 1, some 2, some 3] _ _ _ rfl rfl rfl rfl (by (repeat' (first | exact trivial | refine And.intro ?_ ?_ | refine ⟨_, rfl, _, rfl, ?_⟩ | exact VLe.refl _)); done) (by (repeat' (first | exact trivial | refine And.intro ?_ ?_ | refine ⟨_, rfl, _, rfl, _, rfl, ?_⟩ | exact VLe.refl _ | refine ⟨_, rfl, _, _, rfl, ?_, ?_⟩ | with_reducible exact rfl)); done))⟩
    · simp only [beq_eq_false_iff_ne, ne_eq] at h
      have e : decide (p.kind = 1 ∧ 0 ≤ p.index - b ∧ p.index - b < ho) = false := decide_eq_false (by omega)
      rw [e]
      exact ⟨(), (Weak.mk [some 0, some 1, some 2, some 3] _ _ _ rfl rfl rfl rfl (by (repeat' (first | exact trivial | refine And.intro ?_ ?_ | refine ⟨_, rfl, _, rfl, ?_⟩ | exact VLe.refl _)); done) (by (repeat' (first | exact trivial | refine And.intro ?_ ?_ | refine ⟨_, rfl, _, rfl, _, rfl, ?_⟩ | exact VLe.refl _ | refine ⟨_, rfl, _, _, rfl, ?_, ?_⟩ | with_reducible exact rfl)); done))⟩
  intro _
  by_cases hhole : p.kind = 1 ∧ 0 ≤ p.index - b ∧ p.index - b < ho
  · rw [if_pos hhole] at hmt
    have hd : decide (p.kind = 1 ∧ 0 ≤ p.index - b ∧ p.index - b < ho) = true := decide_eq_true hhole
    rw [hd]
    by_cases hmem : (p.index - b) ∈ m.map (·.1)
    · rw [if_pos hmem] at hmt
      obtain ⟨i, hi⟩ := keyAt_mem hmem
      have hil : i < m.length := by have := (keyAt_some hi).2; simpa using this
      have hc0 : (m.map (·.2))[i]? = some (m[i]).2 := by rw [List.getElem?_map, List.getElem?_eq_getElem hil]; rfl
      rw [hmt]
      repeat' (first | ((with_reducible refine D.nil ?_); refine AX.nilL ?_) | ((with_reducible refine D.load ?_); refine L.ldb rfl rfl rfl rfl rfl rfl ?_) | ((with_reducible refine D.move ?_); refine L.mv rfl rfl rfl ?_) | ((with_reducible refine D.fieldAddr ?_); refine L.fab rfl rfl rfl rfl rfl ?_) | ((with_reducible refine D.assign ?_); refine L.asg rfl rfl rfl ?_) | ((with_reducible refine D.extract ?_); refine L.ex rfl rfl rfl rfl ?_) | ((with_reducible refine D.alloc ?_); refine L.al rfl rfl rfl ?_) | ((with_reducible refine D.store ?_); refine L.st rfl rfl rfl rfl rfl rfl rfl rfl rfl ?_) | ((with_reducible refine D.ax ?_); first | refine L.nc rfl rfl rfl rfl ?_ | refine L.lkuT rfl rfl rfl rfl rfl rfl (by first | assumption | rfl) (by first | assumption | rfl) rfl ?_) | ((with_reducible refine D.aw ?_); first | refine K.sq (AW.regL ?_) | refine K.sq (K.sq ?_) | refine AW.regL ?_ | refine AW.condT rfl ?_ | refine AW.ret ?_) | with_reducible refine K.tN ?_ | with_reducible refine K.tR ?_)
      (exact K.n2 [some 0, some 1] rfl rfl rfl rfl rfl (by (repeat' (first | exact trivial | refine And.intro ?_ ?_ | refine ⟨_, rfl, _, rfl, _, rfl, ?_⟩ | exact VLe.refl _ | refine ⟨_, rfl, _, _, rfl, ?_, ?_⟩ | with_reducible exact rfl)); done) rfl (by simp [tupV, V.wk, V.wks, constV, Ty.view, Tm.view, hmt]))
    · rw [if_neg hmem] at hmt
      have hi := keyAt_none hmem
      rw [hmt]
      repeat' (first | ((with_reducible refine D.nil ?_); first | refine AX.nilL ?_ | refine AX.nilD (by kernel_rfl) ?_) | ((with_reducible refine D.load ?_); refine L.ldb rfl rfl rfl rfl rfl rfl ?_) | ((with_reducible refine D.move ?_); refine L.mv rfl rfl rfl ?_) | ((with_reducible refine D.fieldAddr ?_); refine L.fab rfl rfl rfl rfl rfl ?_) | ((with_reducible refine D.assign ?_); refine L.asg rfl rfl rfl ?_) | ((with_reducible refine D.call ?_); refine L.c2 (hlow) rfl rfl rfl rfl ?_) | ((with_reducible refine D.extract ?_); refine L.ex rfl rfl rfl rfl ?_) | ((with_reducible refine D.alloc ?_); refine L.al rfl rfl rfl ?_) | ((with_reducible refine D.store ?_); refine L.st rfl rfl rfl rfl rfl rfl rfl rfl rfl ?_) | ((with_reducible refine D.ax ?_); first | refine L.nc rfl rfl rfl rfl ?_ | refine L.lkn rfl rfl rfl rfl rfl rfl (by first | assumption | rfl) rfl rfl rfl ?_ | refine L.muT rfl rfl rfl rfl rfl rfl (EC.fold_of rfl) rfl rfl ?_) | ((with_reducible refine D.aw ?_); first | refine K.sq (AW.regL ?_) | refine K.sq (AW.regD mixed (by kernel_rfl) ?_) | refine K.sq (K.sq ?_) | refine AW.regL ?_ | refine AW.condT rfl ?_ | refine AW.condF rfl ?_ | refine AW.skip ?_ | refine AW.ret ?_) | with_reducible refine K.tN ?_ | with_reducible refine K.tR ?_)
      (exact K.n2 [some 0, some 1] rfl rfl rfl rfl rfl (by (repeat' (first | exact trivial | refine And.intro ?_ ?_ | refine ⟨_, rfl, _, rfl, _, rfl, ?_⟩ | exact VLe.refl _ | refine ⟨_, rfl, _, _, rfl, ?_, ?_⟩ | (simp [Sto.upd, hmt, putKs, putCs, hi]; done))); done) rfl (by simp [tupV, V.wk, V.wks, constV, Ty.view, Tm.view, hmt, putKs, putCs, hi]))
  rw [if_neg hhole] at hmt
  have hd : decide (p.kind = 1 ∧ 0 ≤ p.index - b ∧ p.index - b < ho) = false := decide_eq_false hhole
  rw [hd]
  repeat' (first | ((with_reducible refine D.aw ?_); (fail_if_success with_reducible refine D.stopR (id := 9) ?_); (fail_if_success with_reducible refine D.stopS (id := 9) ?_); first | refine AW.condF rfl ?_ | refine AW.skip ?_) | with_reducible refine K.tN ?_)
  refine K.sq ?_
  refine AW.cut (ι := Unit) (fun _ => ([(0, .ptr 0 0), (3, .i b), (5, .ptr 2 0), (6, .ptr 3 0), (70, .bool (!decide (p.kind = t.kind ∧ p.ty = t.ty)))], ⟨4, [(0, .var [.i ho, .mp 1]), (1, .map .tm (m.map (·.1)) (m.map (·.2))), (2, .var p.view), (3, .var t.view)]⟩)) ?_ ?_
  · clear ih hmt hlow hpv htv hsz'
    repeat' (first | ((with_reducible refine D.nil ?_); refine AX.nilL ?_) | ((with_reducible refine D.load ?_); first | refine L.ldb rfl rfl rfl rfl rfl rfl ?_ | refine AX.sk rfl rfl ?_) | ((with_reducible refine D.move ?_); refine L.mv rfl rfl rfl ?_) | ((with_reducible refine D.fieldAddr ?_); first | refine L.fab rfl rfl rfl rfl rfl ?_ | refine AX.sk rfl rfl ?_ | ((fail_if_success refine AX.wt rfl ?_); refine AX.gs rfl rfl (fun _ => trivial) (fun h => ?_) (fun h => ?_))) | ((with_reducible refine D.bin ?_); refine L.bn rfl rfl rfl rfl rfl ?_) | ((with_reducible refine D.call ?_); first | refine L.c2 (hty) rfl rfl rfl rfl ?_ | refine AX.sk rfl rfl ?_) | ((with_reducible refine D.not ?_); first | refine L.nt rfl rfl rfl ?_ | refine AX.sk rfl rfl ?_) | ((with_reducible refine D.pick ?_); refine L.pk rfl rfl rfl rfl ?_) | ((with_reducible refine D.aw ?_); refine AW.regL ?_))
    · have e : (!decide (p.kind = t.kind ∧ p.ty = t.ty)) = true := by
        simp only [bne_iff_ne, ne_eq] at h
        simp [h]
      rw [e]
      exact ⟨(), (Weak.mk [some 0, some 1, some 2, some 3] _ _ _ rfl rfl rfl rfl (by (repeat' (first | exact trivial | refine And.intro ?_ ?_ | refine ⟨_, rfl, _, rfl, ?_⟩ | exact VLe.refl _)); done) (by (repeat' (first | exact trivial | refine And.intro ?_ ?_ | refine ⟨_, rfl, _, rfl, _, rfl, ?_⟩ | exact VLe.refl _ | refine ⟨_, rfl, _, _, rfl, ?_, ?_⟩ | with_reducible exact rfl)); done))⟩
    · have e : (!decide (p.kind = t.kind ∧ p.ty = t.ty)) = !decide (p.ty = t.ty) := by
        simp only [bne_eq_false_iff_eq] at h
        simp [h]
      rw [e]
      exact ⟨(), (Weak.mk [some 0, some 1, some 2, some 3] _ _ _ rfl rfl rfl rfl (by (repeat' (first | exact trivial | refine And.intro ?_ ?_ | refine ⟨_, rfl, _, rfl, ?_⟩ | exact VLe.refl _)); done) (by (repeat' (first | exact trivial | refine And.intro ?_ ?_ | refine ⟨_, rfl, _, rfl, _, rfl, ?_⟩ | exact VLe.refl _ | refine ⟨_, rfl, _, _, rfl, ?_, ?_⟩ | with_reducible exact rfl)); done))⟩
  intro _
  by_cases hne : ¬ (p.kind = t.kind ∧ p.ty = t.ty)
  · rw [if_neg hne] at hmt
    have hd2 : (!decide (p.kind = t.kind ∧ p.ty = t.ty)) = true := by rw [decide_eq_false hne]; rfl
    rw [hd2, hmt]
    repeat' (first | ((with_reducible refine D.nil ?_); refine AX.nilL ?_) | ((with_reducible refine D.assign ?_); refine L.asg rfl rfl rfl ?_) | ((with_reducible refine D.aw ?_); first | refine K.sq (AW.regL ?_) | refine AW.condT rfl ?_ | refine AW.ret ?_) | with_reducible refine K.tN ?_ | with_reducible refine K.tR ?_)
    (exact K.n2 [some 0, some 1] rfl rfl rfl rfl rfl (by (repeat' (first | exact trivial | refine And.intro ?_ ?_ | refine ⟨_, rfl, _, rfl, _, rfl, ?_⟩ | exact VLe.refl _ | refine ⟨_, rfl, _, _, rfl, ?_, ?_⟩ | with_reducible exact rfl)); done) rfl (by simp [tupV, V.wk, V.wks, constV, Ty.view, Tm.view, hmt]))
  have heq := Classical.not_not.1 hne
  have hd2 : (!decide (p.kind = t.kind ∧ p.ty = t.ty)) = false := by rw [decide_eq_true heq]; rfl
  rw [if_pos heq] at hmt
  rw [hd2]
  have hal := head_args hps hts heq.1
  by_cases hk1 : p.kind = 1
  · rw [if_pos hk1] at hmt
    have hti : 0 ≤ t.index ∧ t.index ≤ 268435456 := by
      have h1 : (t.index, (0 : Int)) ∈ t.vars 0 := by rw [t.vars_eq, if_pos (heq.1 ▸ hk1)]; simp
      exact ⟨(shape_index hts).1, htv _ h1⟩
    rw [hmt]
    repeat' (first | ((with_reducible refine D.nil ?_); first | refine AX.nilL ?_ | refine AX.nilD (by kernel_rfl) ?_) | ((with_reducible refine D.load ?_); refine L.ldb rfl rfl rfl rfl rfl rfl ?_) | ((with_reducible refine D.move ?_); refine L.mv rfl rfl rfl ?_) | ((with_reducible refine D.fieldAddr ?_); refine L.fab rfl rfl rfl rfl rfl ?_) | ((with_reducible refine D.assign ?_); refine L.asg rfl rfl rfl ?_) | ((with_reducible refine D.bin ?_); first | refine L.ad rfl rfl rfl rfl (by omega) ?_ | refine L.sb rfl rfl rfl rfl (by omega) ?_ | refine L.bn rfl rfl rfl rfl rfl ?_) | ((with_reducible refine D.call ?_); refine L.lnt rfl rfl rfl rfl ?_) | ((with_reducible refine D.ax ?_); refine L.nc rfl rfl rfl rfl ?_) | ((with_reducible refine D.aw ?_); first | refine K.sq (AW.regL ?_) | refine K.sq (AW.regD mixed (by kernel_rfl) ?_) | refine K.sq (K.sq ?_) | refine AW.regL ?_ | refine AW.condF rfl ?_ | refine AW.condS rfl (fun h => ?_) (fun h => ?_) | refine AW.skip ?_ | refine AW.ret ?_) | with_reducible refine K.tN ?_ | with_reducible refine K.tR ?_)
    · have hle : b ≤ p.index := by simpa using h
      (exact K.n2 [some 0, some 1] rfl rfl rfl rfl rfl (by (repeat' (first | exact trivial | refine And.intro ?_ ?_ | refine ⟨_, rfl, _, rfl, _, rfl, ?_⟩ | exact VLe.refl _ | refine ⟨_, rfl, _, _, rfl, ?_, ?_⟩ | with_reducible exact rfl)); done) rfl (by simp [tupV, V.wk, V.wks, constV, Ty.view, Tm.view, hle, ibeq]))
    · have hle : ¬ b ≤ p.index := by simpa using h
      (exact K.n2 [some 0, some 1] rfl rfl rfl rfl rfl (by (repeat' (first | exact trivial | refine And.intro ?_ ?_ | refine ⟨_, rfl, _, rfl, _, rfl, ?_⟩ | exact VLe.refl _ | refine ⟨_, rfl, _, _, rfl, ?_, ?_⟩ | with_reducible exact rfl)); done) rfl (by simp [tupV, V.wk, V.wks, constV, Ty.view, Tm.view, hle, ibeq]))
    · exfalso; rename_i h0; simp [hk1] at h0
    · exfalso; rename_i h0; simp [hk1] at h0
  rw [if_neg hk1] at hmt
  rw [hmt]
  repeat' (first | ((with_reducible refine D.nil ?_); first | refine AX.nilL ?_ | refine AX.nilD (by kernel_rfl) ?_) | ((with_reducible refine D.load ?_); refine L.ldb rfl rfl rfl rfl rfl rfl ?_) | ((with_reducible refine D.move ?_); refine L.mv rfl rfl rfl ?_) | ((with_reducible refine D.fieldAddr ?_); refine L.fab rfl rfl rfl rfl rfl ?_) | ((with_reducible refine D.assign ?_); refine L.asg rfl rfl rfl ?_) | ((with_reducible refine D.bin ?_); first | refine L.ad rfl rfl rfl rfl (by omega) ?_ | refine L.sb rfl rfl rfl rfl (by omega) ?_ | refine L.bn rfl rfl rfl rfl rfl ?_) | ((with_reducible refine D.call ?_); refine L.lnt rfl rfl rfl rfl ?_) | ((with_reducible refine D.ax ?_); refine L.nc rfl rfl rfl rfl ?_) | ((with_reducible refine D.aw ?_); first | refine K.sq (AW.regL ?_) | refine K.sq (AW.regD mixed (by kernel_rfl) ?_) | refine K.sq (K.sq ?_) | refine AW.regL ?_ | refine AW.condF rfl ?_ | refine AW.condS rfl (fun h => ?_) (fun h => ?_) | refine AW.skip ?_ | refine AW.ret ?_) | with_reducible refine K.tN ?_ | with_reducible refine K.tR ?_)
  · exfalso; rename_i h0; simp [hk1] at h0
  · exfalso; rename_i h0; simp [hk1] at h0
  all_goals
    refine AW.range p.args.length (fun k => (mTs ho (up p.kind b) (p.args.take k) (t.args.take k) m).1 = true)
      (fun k => ([(0, .ptr 0 0), (3, .i (up p.kind b)), (5, .ptr 2 0), (6, .ptr 3 0), (99, .s .tm p.args), (100, .i p.args.length), (101, .i k)], ⟨4, [(0, .var [.i ho, .mp 1]), (1, .map .tm ((mTs ho (up p.kind b) (p.args.take k) (t.args.take k) m).2.map (·.1)) ((mTs ho (up p.kind b) (p.args.take k) (t.args.take k) m).2.map (·.2))), (2, .var p.view), (3, .var t.view)]⟩))
      (by omega) (fun m => rfl) (fun m => rfl) rfl rfl ?_ ?_ ?_
    · simp only [beq_iff_eq, beq_eq_false_iff_ne, ne_eq] at h
      exact (Weak.mk [some 0, some 1, some 2, some 3] _ _ _ rfl rfl rfl rfl (by (repeat' (first | exact trivial | refine And.intro ?_ ?_ | refine ⟨_, rfl, _, rfl, ?_⟩ | exact VLe.refl _ | exact VLe.of_eq (by simp [Sto.upd, up, h, mTs]))); done) (by (repeat' (first | exact trivial | refine And.intro ?_ ?_ | refine ⟨_, rfl, _, rfl, _, rfl, ?_⟩ | exact VLe.refl _ | refine ⟨_, rfl, _, _, rfl, ?_, ?_⟩ | (simp [Sto.upd, up, h, mTs]; done))); done))
    · intro k hk hP
      have hk2 : k < t.args.length := by omega
      have hs2 := lsum_mem Tm.full (List.getElem_mem hk)
      have hs3 := lsum_mem Tm.full (List.getElem_mem hk2)
      have hs4 := t.full_eq
      have hup : up p.kind b ≤ b + 1 := by simp only [up]; split <;> omega
      have hup0 : 0 ≤ up p.kind b := by simp only [up]; split <;> omega
      have hc := ih p.args[k] t.args[k] (mTs ho (up p.kind b) (p.args.take k) (t.args.take k) m).2 (up p.kind b) (by omega) (by omega) hup0 (by omega) (shape_args hps _ (List.getElem_mem hk)) (shape_args hts _ (List.getElem_mem hk2)) (by omega)
        (vars_bd hpv (List.getElem_mem hk)) (vars_bd htv (List.getElem_mem hk2))
      have htk := mTs_take (m := m) hal hk hP
      repeat' (first | ((with_reducible refine D.nil ?_); first | refine AX.nilL ?_ | refine AX.nilD (by kernel_rfl) ?_) | ((with_reducible refine D.load ?_); first | refine L.ldb rfl rfl rfl rfl rfl rfl ?_ | refine L.lda rfl rfl rfl rfl rfl ?_) | ((with_reducible refine D.move ?_); refine L.mv rfl rfl rfl ?_) | ((with_reducible refine D.fieldAddr ?_); refine L.fab rfl rfl rfl rfl rfl ?_) | ((with_reducible refine D.assign ?_); refine L.asg rfl rfl rfl ?_) | ((with_reducible refine D.call ?_); (apply L.cb2 (hc) [0, 1] 0 rfl; rfl; rfl; rfl; rfl; rfl; rfl; (focus ((repeat' (first | exact trivial | refine And.intro ?_ ?_ | refine ⟨_, rfl, _, rfl, _, rfl, ?_⟩ | exact VLe.refl _ | refine ⟨_, rfl, _, _, rfl, ?_, ?_⟩ | with_reducible exact rfl)); done)); rfl; rfl; rfl; rfl)) | ((with_reducible refine D.alloc ?_); refine L.al rfl rfl rfl ?_) | ((with_reducible refine D.store ?_); refine L.st rfl rfl rfl rfl rfl rfl rfl rfl rfl ?_) | ((with_reducible refine D.indexAddr ?_); refine L.ixt _ rfl rfl rfl rfl rfl rfl rfl (by assumption) ?_) | ((with_reducible refine D.not ?_); refine L.nt rfl rfl rfl ?_) | ((with_reducible refine D.aw ?_); first | refine K.sq (AW.regL ?_) | refine K.sq (AW.regD mixed (by kernel_rfl) ?_) | refine AW.condS rfl (fun h => ?_) (fun h => ?_) | refine AW.skip ?_ | refine AW.ret ?_) | with_reducible refine K.tN ?_ | with_reducible refine K.bN ?_ | with_reducible refine K.tR ?_ | with_reducible refine K.bR ?_ | with_reducible refine K.gR ?_)
      · have h1 : (mT ho (up p.kind b) p.args[k] t.args[k] (mTs ho (up p.kind b) (p.args.take k) (t.args.take k) m).2).1 = false := by simpa using h
        have e := mTs_stop (m := m) hal hk hP h1
        rw [e]
        (exact K.n2 [some 0, some 1] rfl rfl rfl rfl rfl (by (repeat' (first | exact trivial | refine And.intro ?_ ?_ | refine ⟨_, rfl, _, rfl, _, rfl, ?_⟩ | exact VLe.refl _ | refine ⟨_, rfl, _, _, rfl, ?_, ?_⟩ | with_reducible exact rfl)); done) rfl (by simp [tupV, V.wk, V.wks, constV, Ty.view, Tm.view, h1]))
      · have h1 : (mT ho (up p.kind b) p.args[k] t.args[k] (mTs ho (up p.kind b) (p.args.take k) (t.args.take k) m).2).1 = true := by simpa using h
        refine ⟨rfl, by simp only [htk]; exact h1, ?_⟩
        simp only [htk]
        exact (Weak.mk [some 0, some 1, some 2, some 3] _ _ _ rfl rfl rfl rfl (by (repeat' (first | exact trivial | refine And.intro ?_ ?_ | refine ⟨_, rfl, _, rfl, ?_⟩ | exact VLe.refl _)); done) (by (repeat' (first | exact trivial | refine And.intro ?_ ?_ | refine ⟨_, rfl, _, rfl, _, rfl, ?_⟩ | exact VLe.refl _ | refine ⟨_, rfl, _, _, rfl, ?_, ?_⟩ | with_reducible exact rfl)); done))
    · intro hP
      have e : mTs ho (up p.kind b) p.args t.args m = (true, (mTs ho (up p.kind b) p.args t.args m).2) := by
        have h1 := hP
        rw [List.take_of_length_le (Nat.le_refl _), List.take_of_length_le (by omega)] at h1
        exact Prod.ext h1 rfl
      rw [List.take_of_length_le (Nat.le_refl _), List.take_of_length_le (show t.args.length ≤ p.args.length by omega)]
      rw [e]
      repeat' (first | ((with_reducible refine D.nil ?_); refine AX.nilL ?_) | ((with_reducible refine D.assign ?_); refine L.asg rfl rfl rfl ?_) | ((with_reducible refine D.aw ?_); first | refine K.sq (AW.regL ?_) | refine AW.ret ?_) | with_reducible refine K.tN ?_)
      (exact K.n2 [some 0, some 1] rfl rfl rfl rfl rfl (by (repeat' (first | exact trivial | refine And.intro ?_ ?_ | refine ⟨_, rfl, _, rfl, _, rfl, ?_⟩ | exact VLe.refl _ | refine ⟨_, rfl, _, _, rfl, ?_, ?_⟩ | with_reducible exact rfl)); done) rfl (by simp [tupV, V.wk, V.wks, constV, Ty.view, Tm.view, e]))
end Go.Ab
namespace Go.Ab
open Go Go.Proofs
set_option maxRecDepth 100000
set_option maxHeartbeats 4000000
set_option linter.all false
theorem formM_c (ho : Int) (hh : 0 ≤ ho ∧ ho ≤ 4096) : ∀ (n : Nat) (p f : Fm) (m : FMap) (b : Int), p.full ≤ n → n < 68719476736 → 0 ≤ b → b + n < 137438953472 → p.shape = true → f.shape = true → f.full < 68719476736 →
    p.nearE = true → f.nearE = true →
    AC E 47 [.ptr 0 0, .agg p.view, .agg f.view, .i b] ⟨2, [(0, .var [.i ho, .mp 1]), (1, .map .tm (m.map (·.1)) (m.map (·.2)))]⟩ (.bool (mF ho b p f m).1)
      ⟨2, [(0, .var [.i ho, .mp 1]), (1, .map .tm ((mF ho b p f m).2.map (·.1)) ((mF ho b p f m).2.map (·.2)))]⟩ := by
  intro n
  induction n with
  | zero => intro p; intros; have := p.full_pos; omega
  | succ n ih =>
  intro p f m b hsz hn hb hbn hps hfs hff hpv hfv
  have hsz' := p.full_eq
  have hlen := lsum_len Fm.full Fm.full_pos p.args
  have hlen2 := lsum_len Tm.full Tm.full_pos p.terms
  have hff' := f.full_eq
  have hmt := mF_eq ho b p f m
  have hq := quantifier_c p.kind
  have hty := sameTy2_c _ p.ty f.ty (Nat.le_refl _) (by omega)
  refine AC.mk Tryz.func47 rfl rfl rfl rfl rfl (Nat.le_of_ble_eq_true rfl) ?_
  repeat' (first | ((with_reducible refine D.nil ?_); refine AX.nilL ?_) | ((with_reducible refine D.assign ?_); refine L.asg rfl rfl rfl ?_) | ((with_reducible refine D.box ?_); refine L.bx rfl rfl rfl rfl ?_) | ((with_reducible refine D.aw ?_); (fail_if_success with_reducible refine D.stopR (id := 1) ?_); (fail_if_success with_reducible refine D.stopS (id := 1) ?_); refine K.sq (AW.regL ?_)) | with_reducible refine K.tN ?_)
  refine K.sq ?_
  refine AW.cut (ι := Unit) (fun _ => ([(0, .ptr 0 0), (3, .i b), (5, .ptr 2 0), (6, .ptr 3 0), (25, .bool (!decide (p.kind = f.kind ∧ p.ty = f.ty)))], ⟨4, [(0, .var [.i ho, .mp 1]), (1, .map .tm (m.map (·.1)) (m.map (·.2))), (2, .var p.view), (3, .var f.view)]⟩)) ?_ ?_
  · clear ih hmt hpv hfv hsz' hq hff'
    repeat' (first | ((with_reducible refine D.nil ?_); refine AX.nilL ?_) | ((with_reducible refine D.load ?_); first | refine L.ldb rfl rfl rfl rfl rfl rfl ?_ | refine AX.sk rfl rfl ?_) | ((with_reducible refine D.move ?_); refine L.mv rfl rfl rfl ?_) | ((with_reducible refine D.fieldAddr ?_); first | refine L.fab rfl rfl rfl rfl rfl ?_ | refine AX.sk rfl rfl ?_ | ((fail_if_success refine AX.wt rfl ?_); refine AX.gs rfl rfl (fun _ => trivial) (fun h => ?_) (fun h => ?_))) | ((with_reducible refine D.bin ?_); refine L.bn rfl rfl rfl rfl rfl ?_) | ((with_reducible refine D.call ?_); first | refine L.c2 (hty) rfl rfl rfl rfl ?_ | refine AX.sk rfl rfl ?_) | ((with_reducible refine D.not ?_); first | refine L.nt rfl rfl rfl ?_ | refine AX.sk rfl rfl ?_) | ((with_reducible refine D.pick ?_); refine L.pk rfl rfl rfl rfl ?_) | ((with_reducible refine D.aw ?_); refine AW.regL ?_))
    · have e : (!decide (p.kind = f.kind ∧ p.ty = f.ty)) = true := by
        simp only [bne_iff_ne, ne_eq] at h
        simp [h]
      rw [e]
      exact ⟨(), (Weak.mk [some 0, some 1, some 2, some 3] _ _ _ rfl rfl rfl rfl (by (repeat' (first | exact trivial | refine And.intro ?_ ?_ | refine ⟨_, rfl, _, rfl, ?_⟩ | exact VLe.refl _)); done) (by (repeat' (first | exact trivial | refine And.intro ?_ ?_ | refine ⟨_, rfl, _, rfl, _, rfl, ?_⟩ | exact VLe.refl _ | refine ⟨_, rfl, _, _, rfl, ?_, ?_⟩ | with_reducible exact rfl)); done))⟩
    · have e : (!decide (p.kind = f.kind ∧ p.ty = f.ty)) = !decide (p.ty = f.ty) := by
        simp only [bne_eq_false_iff_eq] at h
        simp [h]
      rw [e]
      exact ⟨(), (Weak.mk [some 0, some 1, some 2, some 3] _ _ _ rfl rfl rfl rfl (by (repeat' (first | exact trivial | refine And.intro ?_ ?_ | refine ⟨_, rfl, _, rfl, ?_⟩ | exact VLe.refl _)); done) (by (repeat' (first | exact trivial | refine And.intro ?_ ?_ | refine ⟨_, rfl, _, rfl, _, rfl, ?_⟩ | exact VLe.refl _ | refine ⟨_, rfl, _, _, rfl, ?_, ?_⟩ | with_reducible exact rfl)); done))⟩
  intro _
  by_cases hne : ¬ (p.kind = f.kind ∧ p.ty = f.ty)
  · rw [if_neg hne] at hmt
    have hd2 : (!decide (p.kind = f.kind ∧ p.ty = f.ty)) = true := by rw [decide_eq_false hne]; rfl
    rw [hd2, hmt]
    repeat' (first | ((with_reducible refine D.nil ?_); refine AX.nilL ?_) | ((with_reducible refine D.assign ?_); refine L.asg rfl rfl rfl ?_) | ((with_reducible refine D.aw ?_); first | refine K.sq (AW.regL ?_) | refine AW.condT rfl ?_ | refine AW.ret ?_) | with_reducible refine K.tN ?_ | with_reducible refine K.tR ?_)
    (exact K.n2 [some 0, some 1] rfl rfl rfl rfl rfl (by (repeat' (first | exact trivial | refine And.intro ?_ ?_ | refine ⟨_, rfl, _, rfl, _, rfl, ?_⟩ | exact VLe.refl _ | refine ⟨_, rfl, _, _, rfl, ?_, ?_⟩ | with_reducible exact rfl)); done) rfl (by simp [tupV, V.wk, V.wks, constV, Ty.view, Tm.view, hmt]))
  have heq := Classical.not_not.1 hne
  have hd2 : (!decide (p.kind = f.kind ∧ p.ty = f.ty)) = false := by rw [decide_eq_true heq]; rfl
  rw [if_pos heq] at hmt
  rw [hd2]
  have hal := head_fm hps hfs heq.1
  repeat' (first | ((with_reducible refine D.nil ?_); refine AX.nilL ?_) | ((with_reducible refine D.load ?_); refine L.ldb rfl rfl rfl rfl rfl rfl ?_) | ((with_reducible refine D.move ?_); refine L.mv rfl rfl rfl ?_) | ((with_reducible refine D.fieldAddr ?_); refine L.fab rfl rfl rfl rfl rfl ?_) | ((with_reducible refine D.call ?_); refine L.lnt rfl rfl rfl rfl ?_) | ((with_reducible refine D.aw ?_); first | refine K.sq (K.sq ?_) | refine AW.regL ?_ | refine AW.condF rfl ?_ | refine AW.skip ?_) | with_reducible refine K.tN ?_)
  refine AW.range p.terms.length (fun k => (mTs ho b (p.terms.take k) (f.terms.take k) m).1 = true)
    (fun k => ([(0, .ptr 0 0), (3, .i b), (5, .ptr 2 0), (6, .ptr 3 0), (27, .s .tm p.terms), (28, .i p.terms.length), (29, .i k)], ⟨4, [(0, .var [.i ho, .mp 1]), (1, .map .tm ((mTs ho b (p.terms.take k) (f.terms.take k) m).2.map (·.1)) ((mTs ho b (p.terms.take k) (f.terms.take k) m).2.map (·.2))), (2, .var p.view), (3, .var f.view)]⟩))
    (by omega) (fun m => rfl) (fun m => rfl) rfl rfl (Weak.mk [some 0, some 1, some 2, some 3] _ _ _ rfl rfl rfl rfl (by (repeat' (first | exact trivial | refine And.intro ?_ ?_ | refine ⟨_, rfl, _, rfl, ?_⟩ | exact VLe.refl _)); done) (by (repeat' (first | exact trivial | refine And.intro ?_ ?_ | refine ⟨_, rfl, _, rfl, _, rfl, ?_⟩ | exact VLe.refl _ | refine ⟨_, rfl, _, _, rfl, ?_, ?_⟩ | (simp [Sto.upd, mTs]; done))); done)) ?_ ?_
  · intro k hk hP
    have hk2 : k < f.terms.length := by omega
    have hs2 := lsum_mem Tm.full (List.getElem_mem hk)
    have hs3 := lsum_mem Tm.full (List.getElem_mem hk2)
    have hc := termM_c ho hh _ p.terms[k] f.terms[k] (mTs ho b (p.terms.take k) (f.terms.take k) m).2 b (Nat.le_refl _) (by omega) hb (by omega) (fshape_terms hps (List.getElem_mem hk)) (fshape_terms hfs (List.getElem_mem hk2)) (by omega)
      (nearE_terms hpv (List.getElem_mem hk)) (nearE_terms hfv (List.getElem_mem hk2))
    have htk := mTs_take (m := m) hal.1 hk hP
    repeat' (first | ((with_reducible refine D.nil ?_); first | refine AX.nilL ?_ | refine AX.nilD (by kernel_rfl) ?_) | ((with_reducible refine D.load ?_); first | refine L.ldb rfl rfl rfl rfl rfl rfl ?_ | refine L.lda rfl rfl rfl rfl rfl ?_) | ((with_reducible refine D.move ?_); refine L.mv rfl rfl rfl ?_) | ((with_reducible refine D.fieldAddr ?_); refine L.fab rfl rfl rfl rfl rfl ?_) | ((with_reducible refine D.assign ?_); refine L.asg rfl rfl rfl ?_) | ((with_reducible refine D.call ?_); (apply L.cb2 (hc) [0, 1] 0 rfl; rfl; rfl; rfl; rfl; rfl; rfl; (focus ((repeat' (first | exact trivial | refine And.intro ?_ ?_ | refine ⟨_, rfl, _, rfl, _, rfl, ?_⟩ | exact VLe.refl _ | refine ⟨_, rfl, _, _, rfl, ?_, ?_⟩ | with_reducible exact rfl)); done)); rfl; rfl; rfl; rfl)) | ((with_reducible refine D.alloc ?_); refine L.al rfl rfl rfl ?_) | ((with_reducible refine D.store ?_); refine L.st rfl rfl rfl rfl rfl rfl rfl rfl rfl ?_) | ((with_reducible refine D.indexAddr ?_); refine L.ixt _ rfl rfl rfl rfl rfl rfl rfl (by assumption) ?_) | ((with_reducible refine D.not ?_); refine L.nt rfl rfl rfl ?_) | ((with_reducible refine D.aw ?_); first | refine K.sq (AW.regL ?_) | refine K.sq (AW.regD mixed (by kernel_rfl) ?_) | refine AW.condS rfl (fun h => ?_) (fun h => ?_) | refine AW.skip ?_ | refine AW.ret ?_) | with_reducible refine K.tN ?_ | with_reducible refine K.bN ?_ | with_reducible refine K.tR ?_ | with_reducible refine K.bR ?_ | with_reducible refine K.gR ?_)
    · have h1 : (mT ho b p.terms[k] f.terms[k] (mTs ho b (p.terms.take k) (f.terms.take k) m).2).1 = false := by simpa using h
      have e := mTs_stop (m := m) hal.1 hk hP h1
      rw [e] at hmt
      rw [hmt]
      (exact K.n2 [some 0, some 1] rfl rfl rfl rfl rfl (by (repeat' (first | exact trivial | refine And.intro ?_ ?_ | refine ⟨_, rfl, _, rfl, _, rfl, ?_⟩ | exact VLe.refl _ | refine ⟨_, rfl, _, _, rfl, ?_, ?_⟩ | with_reducible exact rfl)); done) rfl (by simp [tupV, V.wk, V.wks, constV, Ty.view, Tm.view, h1]))
    · have h1 : (mT ho b p.terms[k] f.terms[k] (mTs ho b (p.terms.take k) (f.terms.take k) m).2).1 = true := by simpa using h
      refine ⟨rfl, by simp only [htk]; exact h1, ?_⟩
      simp only [htk]
      exact (Weak.mk [some 0, some 1, some 2, some 3] _ _ _ rfl rfl rfl rfl (by (repeat' (first | exact trivial | refine And.intro ?_ ?_ | refine ⟨_, rfl, _, rfl, ?_⟩ | exact VLe.refl _)); done) (by (repeat' (first | exact trivial | refine And.intro ?_ ?_ | refine ⟨_, rfl, _, rfl, _, rfl, ?_⟩ | exact VLe.refl _ | refine ⟨_, rfl, _, _, rfl, ?_, ?_⟩ | with_reducible exact rfl)); done))
  intro hP
  rw [List.take_of_length_le (Nat.le_refl _), List.take_of_length_le (by omega)] at hP
  rw [List.take_of_length_le (Nat.le_refl _), List.take_of_length_le (show f.terms.length ≤ p.terms.length by omega)]
  have e1 : mTs ho b p.terms f.terms m = (true, (mTs ho b p.terms f.terms m).2) := Prod.ext hP rfl
  have hmt2 : mF ho b p f m = mFs ho (upF p.kind b) p.args f.args (mTs ho b p.terms f.terms m).2 := by rw [hmt, e1]
  rw [hmt2]
  repeat' (first | ((with_reducible refine D.nil ?_); refine AX.nilL ?_) | ((with_reducible refine D.load ?_); refine L.ldb rfl rfl rfl rfl rfl rfl ?_) | ((with_reducible refine D.move ?_); refine L.mv rfl rfl rfl ?_) | ((with_reducible refine D.fieldAddr ?_); refine L.fab rfl rfl rfl rfl rfl ?_) | ((with_reducible refine D.assign ?_); refine L.asg rfl rfl rfl ?_) | ((with_reducible refine D.bin ?_); refine L.ad rfl rfl rfl rfl (by omega) ?_) | ((with_reducible refine D.call ?_); first | refine L.lnt rfl rfl rfl rfl ?_ | refine L.c2 (hq) rfl rfl rfl rfl ?_) | ((with_reducible refine D.aw ?_); first | refine K.sq (K.sq ?_) | refine AW.regL ?_ | refine AW.condS rfl (fun h => ?_) (fun h => ?_) | refine AW.skip ?_) | with_reducible refine K.tN ?_)
  all_goals
    refine AW.range p.args.length (fun k => (mFs ho (upF p.kind b) (p.args.take k) (f.args.take k) (mTs ho b p.terms f.terms m).2).1 = true)
      (fun k => ([(0, .ptr 0 0), (3, .i (upF p.kind b)), (5, .ptr 2 0), (6, .ptr 3 0), (51, .s .fm p.args), (52, .i p.args.length), (53, .i k)], ⟨4, [(0, .var [.i ho, .mp 1]), (1, .map .tm ((mFs ho (upF p.kind b) (p.args.take k) (f.args.take k) (mTs ho b p.terms f.terms m).2).2.map (·.1)) ((mFs ho (upF p.kind b) (p.args.take k) (f.args.take k) (mTs ho b p.terms f.terms m).2).2.map (·.2))), (2, .var p.view), (3, .var f.view)]⟩))
      (by omega) (fun m => rfl) (fun m => rfl) rfl rfl ?_ ?_ ?_
    · exact (Weak.mk [some 0, some 1, some 2, some 3] _ _ _ rfl rfl rfl rfl (by (repeat' (first | exact trivial | refine And.intro ?_ ?_ | refine ⟨_, rfl, _, rfl, ?_⟩ | exact VLe.refl _ | exact VLe.of_eq (by simp [Sto.upd, upF, h, mFs]))); done) (by (repeat' (first | exact trivial | refine And.intro ?_ ?_ | refine ⟨_, rfl, _, rfl, _, rfl, ?_⟩ | exact VLe.refl _ | refine ⟨_, rfl, _, _, rfl, ?_, ?_⟩ | (simp [Sto.upd, upF, h, mFs]; done))); done))
    · intro k hk hP
      have hk2 : k < f.args.length := by omega
      have hs2 := lsum_mem Fm.full (List.getElem_mem hk)
      have hs3 := lsum_mem Fm.full (List.getElem_mem hk2)
      have hup : upF p.kind b ≤ b + 1 := by simp only [upF]; split <;> omega
      have hup0 : 0 ≤ upF p.kind b := by simp only [upF]; split <;> omega
      have hc := ih p.args[k] f.args[k] (mFs ho (upF p.kind b) (p.args.take k) (f.args.take k) (mTs ho b p.terms f.terms m).2).2 (upF p.kind b) (by omega) (by omega) hup0 (by omega) (fshape_args hps (List.getElem_mem hk)) (fshape_args hfs (List.getElem_mem hk2)) (by omega)
        (nearE_args hpv (List.getElem_mem hk)) (nearE_args hfv (List.getElem_mem hk2))
      have htk := mFs_take (m := (mTs ho b p.terms f.terms m).2) hal.2 hk hP
      repeat' (first | ((with_reducible refine D.nil ?_); first | refine AX.nilL ?_ | refine AX.nilD (by kernel_rfl) ?_) | ((with_reducible refine D.load ?_); first | refine L.ldb rfl rfl rfl rfl rfl rfl ?_ | refine L.lda rfl rfl rfl rfl rfl ?_) | ((with_reducible refine D.move ?_); refine L.mv rfl rfl rfl ?_) | ((with_reducible refine D.fieldAddr ?_); refine L.fab rfl rfl rfl rfl rfl ?_) | ((with_reducible refine D.assign ?_); refine L.asg rfl rfl rfl ?_) | ((with_reducible refine D.call ?_); (apply L.cb2 (hc) [0, 1] 0 rfl; rfl; rfl; rfl; rfl; rfl; rfl; (focus ((repeat' (first | exact trivial | refine And.intro ?_ ?_ | refine ⟨_, rfl, _, rfl, _, rfl, ?_⟩ | exact VLe.refl _ | refine ⟨_, rfl, _, _, rfl, ?_, ?_⟩ | with_reducible exact rfl)); done)); rfl; rfl; rfl; rfl)) | ((with_reducible refine D.alloc ?_); refine L.al rfl rfl rfl ?_) | ((with_reducible refine D.store ?_); refine L.st rfl rfl rfl rfl rfl rfl rfl rfl rfl ?_) | ((with_reducible refine D.indexAddr ?_); refine L.ixt _ rfl rfl rfl rfl rfl rfl rfl (by assumption) ?_) | ((with_reducible refine D.not ?_); refine L.nt rfl rfl rfl ?_) | ((with_reducible refine D.aw ?_); first | refine K.sq (AW.regL ?_) | refine K.sq (AW.regD mixed (by kernel_rfl) ?_) | refine AW.condS rfl (fun h => ?_) (fun h => ?_) | refine AW.skip ?_ | refine AW.ret ?_) | with_reducible refine K.tN ?_ | with_reducible refine K.bN ?_ | with_reducible refine K.tR ?_ | with_reducible refine K.bR ?_ | with_reducible refine K.gR ?_)
      · have h1 : (mF ho (upF p.kind b) p.args[k] f.args[k] (mFs ho (upF p.kind b) (p.args.take k) (f.args.take k) (mTs ho b p.terms f.terms m).2).2).1 = false := by simpa using h
        have e := mFs_stop (m := (mTs ho b p.terms f.terms m).2) hal.2 hk hP h1
        rw [e]
        (exact K.n2 [some 0, some 1] rfl rfl rfl rfl rfl (by (repeat' (first | exact trivial | refine And.intro ?_ ?_ | refine ⟨_, rfl, _, rfl, _, rfl, ?_⟩ | exact VLe.refl _ | refine ⟨_, rfl, _, _, rfl, ?_, ?_⟩ | with_reducible exact rfl)); done) rfl (by simp [tupV, V.wk, V.wks, constV, Ty.view, Tm.view, h1]))
      · have h1 : (mF ho (upF p.kind b) p.args[k] f.args[k] (mFs ho (upF p.kind b) (p.args.take k) (f.args.take k) (mTs ho b p.terms f.terms m).2).2).1 = true := by simpa using h
        refine ⟨rfl, by simp only [htk]; exact h1, ?_⟩
        simp only [htk]
        exact (Weak.mk [some 0, some 1, some 2, some 3] _ _ _ rfl rfl rfl rfl (by (repeat' (first | exact trivial | refine And.intro ?_ ?_ | refine ⟨_, rfl, _, rfl, ?_⟩ | exact VLe.refl _)); done) (by (repeat' (first | exact trivial | refine And.intro ?_ ?_ | refine ⟨_, rfl, _, rfl, _, rfl, ?_⟩ | exact VLe.refl _ | refine ⟨_, rfl, _, _, rfl, ?_, ?_⟩ | with_reducible exact rfl)); done))
    · intro hP
      have e : mFs ho (upF p.kind b) p.args f.args (mTs ho b p.terms f.terms m).2 = (true, (mFs ho (upF p.kind b) p.args f.args (mTs ho b p.terms f.terms m).2).2) := by
        have h1 := hP
        rw [List.take_of_length_le (Nat.le_refl _), List.take_of_length_le (by omega)] at h1
        exact Prod.ext h1 rfl
      rw [List.take_of_length_le (Nat.le_refl _), List.take_of_length_le (show f.args.length ≤ p.args.length by omega)]
      rw [e]
      repeat' (first | ((with_reducible refine D.nil ?_); refine AX.nilL ?_) | ((with_reducible refine D.assign ?_); refine L.asg rfl rfl rfl ?_) | ((with_reducible refine D.aw ?_); first | refine K.sq (AW.regL ?_) | refine AW.ret ?_) | with_reducible refine K.tN ?_)
      (exact K.n2 [some 0, some 1] rfl rfl rfl rfl rfl (by (repeat' (first | exact trivial | refine And.intro ?_ ?_ | refine ⟨_, rfl, _, rfl, _, rfl, ?_⟩ | exact VLe.refl _ | refine ⟨_, rfl, _, _, rfl, ?_, ?_⟩ | with_reducible exact rfl)); done) rfl (by simp [tupV, V.wk, V.wks, constV, Ty.view, Tm.view, e]))
end Go.Ab
namespace Go.Ab
open Go Go.Proofs
set_option maxRecDepth 100000
set_option maxHeartbeats 4000000
set_option linter.all false
theorem fill_c (p : Fm) (l : List Tm) (hp : p.full < 137438953472) (hlen : l.length < 1099511627776) (hl : ∀ t ∈ l, t.full < 137438953472) : PC E 10 [.agg p.view, .s .tm l] (.tup [.agg (fill p l).1.view, .i (fill p l).2]) := by
  have h1 := fcheck_c p (by omega)
  have h2 := ownFm_c p (by omega)
  refine AC.mk Tryz.func10 rfl rfl rfl rfl rfl (Nat.le_of_ble_eq_true rfl) ?_
  repeat' (first | ((with_reducible refine D.nil ?_); refine AX.nilL ?_) | ((with_reducible refine D.load ?_); refine L.ldb rfl rfl rfl rfl rfl rfl ?_) | ((with_reducible refine D.move ?_); refine L.mv rfl rfl rfl ?_) | ((with_reducible refine D.assign ?_); refine L.asg rfl rfl rfl ?_) | ((with_reducible refine D.bin ?_); refine L.bn rfl rfl rfl rfl rfl ?_) | ((with_reducible refine D.call ?_); first | refine L.lnt rfl rfl rfl rfl ?_ | refine L.c2 (h1) rfl rfl rfl rfl ?_ | refine L.c2 (h2) rfl rfl rfl rfl ?_) | ((with_reducible refine D.box ?_); refine L.bx rfl rfl rfl rfl ?_) | ((with_reducible refine D.alloc ?_); refine L.al rfl rfl rfl ?_) | ((with_reducible refine D.store ?_); refine L.st rfl rfl rfl rfl rfl rfl rfl rfl rfl ?_) | ((with_reducible refine D.ax ?_); refine L.bd rfl rfl rfl rfl rfl ?_) | ((with_reducible refine D.aw ?_); first | refine K.sq (AW.regL ?_) | refine K.sq (K.sq ?_) | refine AW.regL ?_ | refine AW.condS rfl (fun h => ?_) (fun h => ?_) | refine AW.skip ?_ | refine AW.ret ?_) | with_reducible refine K.tN ?_ | with_reducible refine K.tR ?_ | with_reducible refine K.r1 (by with_unfolding_all rfl) (by with_unfolding_all rfl) ?_)
  · have e : p.err ≠ 0 := by simpa using h
    have e2 : fill p l = (noFm, p.err) := by simp only [fill]; rw [if_pos e]
    rw [e2]
    simp [tupV, V.wk, V.wks, constV, Ty.view, Fm.view, noFm]
  · rename_i h0
    have e : ¬ p.err ≠ 0 := by simpa using h0
    have e1 : 16 < l.length := by simp at h; omega
    have e2 : fill p l = (noFm, 1) := by simp only [fill]; rw [if_neg e, if_pos e1]
    rw [e2]
    simp [tupV, V.wk, V.wks, constV, Ty.view, Fm.view, noFm]
  rename_i h0
  have e : ¬ p.err ≠ 0 := by simpa using h0
  have e0 : p.err = 0 := Classical.not_not.1 e
  have e1 : ¬ 16 < l.length := by simp at h; omega
  have e2 : fill p l = fillF l.length l 0 p := by simp only [fill]; rw [if_neg e, if_neg e1]
  have hpf := ferr_full e0
  refine AW.range l.length (fun m => (fillF l.length (l.take m) 0 p).2 = 0)
    (fun m => ([(1, .s .tm l), (4, .ptr 1 0), (7, .ptr 2 0), (24, .s .tm l), (25, .i l.length), (26, .i m)], ⟨3, [(0, .var p.view), (1, .var [.i 0, .i 0, .slice .nil (.t .ty []), .slice .nil (.t .tm []), .slice .nil (.t .fm [])]), (2, .var (fillF l.length (l.take m) 0 p).1.view)]⟩))
    (by omega) (fun m => rfl) (fun m => rfl) rfl rfl (Weak.mk [some 0, some 1, some 2] _ _ _ rfl rfl rfl rfl (by (repeat' (first | exact trivial | refine And.intro ?_ ?_ | refine ⟨_, rfl, _, rfl, ?_⟩ | exact VLe.refl _)); done) (by (repeat' (first | exact trivial | refine And.intro ?_ ?_ | refine ⟨_, rfl, _, rfl, _, rfl, ?_⟩ | exact VLe.refl _)); done)) ?_ ?_
  · intro m hm hP
    have hb := fillF_bd l.length (l.take m) 0 p (by omega)
    have hg := fillF_go l.length l[m] [] (l.take m) 0 p hP
    have hg2 := fillF_go l.length l[m] (l.drop (m + 1)) (l.take m) 0 p hP
    rw [← take_drop_at l m hm] at hg2
    have hml : ((0 : Int) + (l.take m).length) = m := by simp; omega
    rw [hml] at hg hg2
    rw [List.take_append_getElem hm] at hg
    simp only [fillF] at hg hg2
    have hc := substLift_c l[m] 0 (l.length - 1 - m) (by have := hl l[m] (List.getElem_mem hm); omega)
    by_cases hl0 : liftErr l[m] 0 (l.length - 1 - m) = 0
    · have hc2 := fput_c (fillF l.length (l.take m) 0 p).1 0 (l[m].re (liftG 0 (l.length - 1 - m)) 0) (by omega) (by
        have h3 : l[m].err = 0 := by
          by_cases h4 : l[m].err = 0
          · exact h4
          · simp only [liftErr] at hl0; rw [if_pos h4] at hl0; exact absurd hl0 h4
        rw [lift_full _ _ _ _ (err_zero h3).1]
        have := hl l[m] (List.getElem_mem hm)
        omega)
      rw [if_pos hl0] at hc
      rw [if_neg (by simpa using hl0)] at hg hg2
      by_cases hp0 : putFErr (fillF l.length (l.take m) 0 p).1 0 (l[m].re (liftG 0 (l.length - 1 - m)) 0) = 0
      · rw [if_pos hp0] at hc2
        rw [if_neg (by simpa using hp0)] at hg hg2
        rw [hl0] at hc
        rw [hp0] at hc2
        repeat' (first | ((with_reducible refine D.nil ?_); refine AX.nilL ?_) | ((with_reducible refine D.load ?_); first | refine L.ldb rfl rfl rfl rfl rfl rfl ?_ | refine L.lda rfl rfl rfl rfl rfl ?_) | ((with_reducible refine D.move ?_); refine L.mv rfl rfl rfl ?_) | ((with_reducible refine D.assign ?_); refine L.asg rfl rfl rfl ?_) | ((with_reducible refine D.bin ?_); first | refine L.sb rfl rfl rfl rfl (by omega) ?_ | refine L.bn rfl rfl rfl rfl rfl ?_) | ((with_reducible refine D.call ?_); first | refine L.lnt rfl rfl rfl rfl ?_ | refine L.c2 (hc) rfl rfl rfl rfl ?_ | refine L.c2 (hc2) rfl rfl rfl rfl ?_) | ((with_reducible refine D.extract ?_); refine L.ex rfl rfl rfl rfl ?_) | ((with_reducible refine D.alloc ?_); refine L.al rfl rfl rfl ?_) | ((with_reducible refine D.store ?_); refine L.st rfl rfl rfl rfl rfl rfl rfl rfl rfl ?_) | ((with_reducible refine D.indexAddr ?_); refine L.ixt _ rfl rfl rfl rfl rfl rfl rfl (by assumption) ?_) | ((with_reducible refine D.aw ?_); first | refine K.sq (AW.regL ?_) | refine K.sq (K.sq ?_) | refine AW.regL ?_ | refine AW.condF rfl ?_ | refine AW.skip ?_) | with_reducible refine K.tN ?_ | with_reducible refine K.bN ?_)
        exact ⟨rfl, by simp only [hg], (Weak.mk [some 0, some 1, some 2] _ _ _ rfl rfl rfl rfl (by (repeat' (first | exact trivial | refine And.intro ?_ ?_ | refine ⟨_, rfl, _, rfl, ?_⟩ | exact VLe.refl _)); done) (by (repeat' (first | exact trivial | refine And.intro ?_ ?_ | refine ⟨_, rfl, _, rfl, _, rfl, ?_⟩ | exact VLe.refl _ | exact VLe.of_eq (by simp [Sto.upd, hg]))); done))⟩
      · rw [if_neg hp0] at hc2
        rw [if_pos (by simpa using hp0)] at hg hg2
        rw [hl0] at hc
        rw [e2, hg2]
        repeat' (first | ((with_reducible refine D.nil ?_); refine AX.nilL ?_) | ((with_reducible refine D.load ?_); first | refine L.ldb rfl rfl rfl rfl rfl rfl ?_ | refine L.lda rfl rfl rfl rfl rfl ?_) | ((with_reducible refine D.move ?_); refine L.mv rfl rfl rfl ?_) | ((with_reducible refine D.assign ?_); refine L.asg rfl rfl rfl ?_) | ((with_reducible refine D.bin ?_); first | refine L.sb rfl rfl rfl rfl (by omega) ?_ | refine L.bn rfl rfl rfl rfl rfl ?_) | ((with_reducible refine D.call ?_); first | refine L.lnt rfl rfl rfl rfl ?_ | refine L.c2 (hc) rfl rfl rfl rfl ?_ | refine L.c2 (hc2) rfl rfl rfl rfl ?_) | ((with_reducible refine D.extract ?_); refine L.ex rfl rfl rfl rfl ?_) | ((with_reducible refine D.alloc ?_); refine L.al rfl rfl rfl ?_) | ((with_reducible refine D.store ?_); refine L.st rfl rfl rfl rfl rfl rfl rfl rfl rfl ?_) | ((with_reducible refine D.indexAddr ?_); refine L.ixt _ rfl rfl rfl rfl rfl rfl rfl (by assumption) ?_) | ((with_reducible refine D.ax ?_); refine L.bd rfl rfl rfl rfl rfl ?_) | ((with_reducible refine D.aw ?_); first | refine K.sq (AW.regL ?_) | refine K.sq (K.sq ?_) | refine AW.regL ?_ | refine AW.condF rfl ?_ | refine AW.condS rfl (fun h => ?_) (fun h => ?_) | refine AW.skip ?_ | refine AW.ret ?_) | with_reducible refine K.tN ?_ | with_reducible refine K.bN ?_ | with_reducible refine K.tR ?_ | with_reducible refine K.bR ?_ | with_reducible refine K.gR ?_ | with_reducible refine K.r1 (by with_unfolding_all rfl) (by with_unfolding_all rfl) ?_)
        · simp [tupV, V.wk, V.wks, constV, Ty.view, Fm.view, noFm]
        · exfalso; simp [hp0] at h
    · rw [if_neg hl0] at hc
      rw [if_pos (by simpa using hl0)] at hg hg2
      rw [e2, hg2]
      repeat' (first | ((with_reducible refine D.nil ?_); refine AX.nilL ?_) | ((with_reducible refine D.load ?_); first | refine L.ldb rfl rfl rfl rfl rfl rfl ?_ | refine L.lda rfl rfl rfl rfl rfl ?_) | ((with_reducible refine D.move ?_); refine L.mv rfl rfl rfl ?_) | ((with_reducible refine D.assign ?_); refine L.asg rfl rfl rfl ?_) | ((with_reducible refine D.bin ?_); first | refine L.sb rfl rfl rfl rfl (by omega) ?_ | refine L.bn rfl rfl rfl rfl rfl ?_) | ((with_reducible refine D.call ?_); first | refine L.lnt rfl rfl rfl rfl ?_ | refine L.c2 (hc) rfl rfl rfl rfl ?_) | ((with_reducible refine D.extract ?_); refine L.ex rfl rfl rfl rfl ?_) | ((with_reducible refine D.alloc ?_); refine L.al rfl rfl rfl ?_) | ((with_reducible refine D.store ?_); refine L.st rfl rfl rfl rfl rfl rfl rfl rfl rfl ?_) | ((with_reducible refine D.indexAddr ?_); refine L.ixt _ rfl rfl rfl rfl rfl rfl rfl (by assumption) ?_) | ((with_reducible refine D.ax ?_); refine L.bd rfl rfl rfl rfl rfl ?_) | ((with_reducible refine D.aw ?_); first | refine K.sq (AW.regL ?_) | refine K.sq (K.sq ?_) | refine AW.regL ?_ | refine AW.condS rfl (fun h => ?_) (fun h => ?_) | refine AW.skip ?_ | refine AW.ret ?_) | with_reducible refine K.tN ?_ | with_reducible refine K.tR ?_ | with_reducible refine K.bR ?_ | with_reducible refine K.gR ?_ | with_reducible refine K.r1 (by with_unfolding_all rfl) (by with_unfolding_all rfl) ?_)
      · simp [tupV, V.wk, V.wks, constV, Ty.view, Fm.view, noFm]
      · exfalso; simp [hl0] at h
  · intro hP
    rw [List.take_of_length_le (Nat.le_refl _)] at hP
    rw [List.take_of_length_le (Nat.le_refl _)]
    rw [e2, hP]
    repeat' (first | ((with_reducible refine D.nil ?_); refine AX.nilL ?_) | ((with_reducible refine D.load ?_); refine L.ldb rfl rfl rfl rfl rfl rfl ?_) | ((with_reducible refine D.assign ?_); refine L.asg rfl rfl rfl ?_) | ((with_reducible refine D.store ?_); refine L.st rfl rfl rfl rfl rfl rfl rfl rfl rfl ?_) | ((with_reducible refine D.aw ?_); first | refine K.sq (AW.regL ?_) | refine AW.ret ?_) | with_reducible refine K.tN ?_ | with_reducible refine K.r1 (by with_unfolding_all rfl) (by with_unfolding_all rfl) ?_)
    rfl
end Go.Ab
namespace Go.Ab
open Go Go.Proofs
set_option maxRecDepth 100000
set_option maxHeartbeats 4000000
set_option linter.all false
theorem keyAt_look : ∀ {m : FMap} {k : Int}, (keyAt k (m.map (·.1)) = none → lookT m k = none) ∧ ∀ i, keyAt k (m.map (·.1)) = some i → lookT m k = (m.map (·.2))[i]?
  | [], k => ⟨fun _ => rfl, fun i h => by cases h⟩
  | p :: m, k => by
    obtain ⟨h1, h2⟩ := keyAt_look (m := m) (k := k)
    simp only [List.map_cons, keyAt, lookT]
    by_cases hp : p.1 = k
    · rw [if_pos hp, if_pos hp]
      exact ⟨fun h => by (exact absurd h (by simp)), fun i h => by cases h; rfl⟩
    · rw [if_neg hp, if_neg hp]
      refine ⟨fun h => h1 (by simpa using h), fun i h => ?_⟩
      rw [Option.map_eq_some_iff] at h
      obtain ⟨j, h3, rfl⟩ := h
      rw [h2 j h3, List.getElem?_cons_succ]
theorem outs_succ (m : FMap) (n : Nat) : outs m (n + 1) = outs m n ++ [(lookT m n).getD zeroT] := by simp [outs, List.range_succ]
theorem outs_len (m : FMap) (n : Nat) : (outs m n).length = n := by simp [outs]
theorem fill_bd {p : Fm} {l : List Tm} : (fill p l).1.full ≤ 1200000000 := by
  simp only [fill]
  split
  · simp [noFm, Fm.full, Fm.fulls, Ty.size, Ty.sizes]
  · split
    · simp [noFm, Fm.full, Fm.fulls, Ty.size, Ty.sizes]
    · rename_i h1 _
      have := ferr_full (Classical.not_not.1 h1)
      exact fillF_bd _ _ _ _ (by omega)
theorem match_c (p f : Fm) (ho : Int) (hp : p.full < 68719476736) (hf : f.full < 68719476736) : PC E 11 [.agg p.view, .i ho, .agg f.view] (.tup [.s .tm (matchF p ho f).1, .i (matchF p ho f).2]) := by
  have h1 := fcheck_c p (by omega)
  have h2 := fcheck_c f (by omega)
  have h3 := enear_c p (by omega)
  have h4 := enear_c f (by omega)
  by_cases e1 : p.err = 0
  rotate_left
  · have e : matchF p ho f = ([], p.err) := by simp only [matchF]; rw [if_pos e1]
    rw [e]
    refine AC.mk Tryz.func11 rfl rfl rfl rfl rfl (Nat.le_of_ble_eq_true rfl) ?_
    repeat' (first | ((with_reducible refine D.nil ?_); refine AX.nilL ?_) | ((with_reducible refine D.load ?_); refine L.ldb rfl rfl rfl rfl rfl rfl ?_) | ((with_reducible refine D.move ?_); refine L.mv rfl rfl rfl ?_) | ((with_reducible refine D.assign ?_); refine L.asg rfl rfl rfl ?_) | ((with_reducible refine D.bin ?_); refine L.bn rfl rfl rfl rfl rfl ?_) | ((with_reducible refine D.call ?_); refine L.c2 (h1) rfl rfl rfl rfl ?_) | ((with_reducible refine D.box ?_); refine L.bx rfl rfl rfl rfl ?_) | ((with_reducible refine D.aw ?_); (fail_if_success with_reducible refine D.stopR (id := 4) ?_); (fail_if_success with_reducible refine D.stopS (id := 4) ?_); first | refine K.sq (AW.regL ?_) | refine K.sq (K.sq ?_) | refine AW.regL ?_ | refine AW.condS rfl (fun h => ?_) (fun h => ?_) | refine AW.skip ?_ | refine AW.ret ?_) | with_reducible refine K.tN ?_ | with_reducible refine K.tR ?_ | with_reducible refine K.r1 (by with_unfolding_all rfl) (by with_unfolding_all rfl) ?_)
    · rfl
    · exfalso; simp [e1] at h
  by_cases e2 : f.err = 0
  rotate_left
  · have e : matchF p ho f = ([], f.err) := by simp only [matchF]; rw [if_neg (by simpa using e1), if_pos e2]
    rw [e1] at h1
    rw [e]
    refine AC.mk Tryz.func11 rfl rfl rfl rfl rfl (Nat.le_of_ble_eq_true rfl) ?_
    repeat' (first | ((with_reducible refine D.nil ?_); refine AX.nilL ?_) | ((with_reducible refine D.load ?_); refine L.ldb rfl rfl rfl rfl rfl rfl ?_) | ((with_reducible refine D.move ?_); refine L.mv rfl rfl rfl ?_) | ((with_reducible refine D.assign ?_); refine L.asg rfl rfl rfl ?_) | ((with_reducible refine D.bin ?_); refine L.bn rfl rfl rfl rfl rfl ?_) | ((with_reducible refine D.call ?_); first | refine L.c2 (h1) rfl rfl rfl rfl ?_ | refine L.c2 (h2) rfl rfl rfl rfl ?_) | ((with_reducible refine D.box ?_); refine L.bx rfl rfl rfl rfl ?_) | ((with_reducible refine D.aw ?_); (fail_if_success with_reducible refine D.stopR (id := 7) ?_); (fail_if_success with_reducible refine D.stopS (id := 7) ?_); first | refine K.sq (AW.regL ?_) | refine K.sq (K.sq ?_) | refine AW.regL ?_ | refine AW.condF rfl ?_ | refine AW.condS rfl (fun h => ?_) (fun h => ?_) | refine AW.skip ?_ | refine AW.ret ?_) | with_reducible refine K.tN ?_ | with_reducible refine K.tR ?_ | with_reducible refine K.r1 (by with_unfolding_all rfl) (by with_unfolding_all rfl) ?_)
    · rfl
    · exfalso; simp [e2] at h
  rw [e1] at h1
  rw [e2] at h2
  have hpf := ferr_full e1
  have hff := ferr_full e2
  have hps := ((Fm.err_iff p).1 e1).1
  have hfs := ((Fm.err_iff f).1 e2).1
  by_cases e3 : 0 ≤ ho ∧ ho ≤ 16 ∧ p.nearE = true ∧ f.nearE = true
  rotate_left
  · have e : matchF p ho f = ([], 1) := by
      simp only [matchF]; rw [if_neg (by simpa using e1), if_neg (by simpa using e2), if_pos]
      cases hn1 : p.nearE with
      | false => exact .inr (.inl rfl)
      | true =>
        cases hn2 : f.nearE with
        | false => exact .inr (.inr rfl)
        | true => exact .inl fun hc => e3 ⟨hc.1, hc.2, hn1, hn2⟩
    rw [e]
    refine AC.mk Tryz.func11 rfl rfl rfl rfl rfl (Nat.le_of_ble_eq_true rfl) ?_
    repeat' (first | ((with_reducible refine D.nil ?_); refine AX.nilL ?_) | ((with_reducible refine D.load ?_); first | refine L.ldb rfl rfl rfl rfl rfl rfl ?_ | refine AX.sk rfl rfl ?_ | ((fail_if_success refine AX.wt rfl ?_); refine AX.gs rfl rfl (fun _ => trivial) (fun h => ?_) (fun h => ?_))) | ((with_reducible refine D.move ?_); first | refine L.mv rfl rfl rfl ?_ | refine AX.sk rfl rfl ?_ | ((fail_if_success refine AX.wt rfl ?_); refine AX.gs rfl rfl (fun _ => trivial) (fun h => ?_) (fun h => ?_))) | ((with_reducible refine D.assign ?_); refine L.asg rfl rfl rfl ?_) | ((with_reducible refine D.bin ?_); first | refine L.bn rfl rfl rfl rfl rfl ?_ | refine AX.sk rfl rfl ?_) | ((with_reducible refine D.call ?_); first | refine L.c2 (h1) rfl rfl rfl rfl ?_ | refine L.c2 (h2) rfl rfl rfl rfl ?_ | refine L.c2 (h3) rfl rfl rfl rfl ?_ | refine L.c2 (h4) rfl rfl rfl rfl ?_ | refine AX.sk rfl rfl ?_) | ((with_reducible refine D.box ?_); refine L.bx rfl rfl rfl rfl ?_) | ((with_reducible refine D.not ?_); first | refine L.nt rfl rfl rfl ?_ | refine AX.sk rfl rfl ?_) | ((with_reducible refine D.pick ?_); refine L.pk rfl rfl rfl rfl ?_) | ((with_reducible refine D.aw ?_); (fail_if_success with_reducible refine D.stopR (id := 9) ?_); (fail_if_success with_reducible refine D.stopS (id := 9) ?_); first | refine K.sq (AW.regL ?_) | refine K.sq (K.sq ?_) | refine AW.regL ?_ | refine AW.condT rfl ?_ | refine AW.condF rfl ?_ | refine AW.condS rfl (fun h => ?_) (fun h => ?_) | refine AW.skip ?_ | refine AW.ret ?_) | with_reducible refine K.tN ?_ | with_reducible refine K.tR ?_ | with_reducible refine K.r1 (by with_unfolding_all rfl) (by with_unfolding_all rfl) ?_)
    all_goals first
      | rfl
      | (exfalso; apply e3; simp at *; omega)
      | (exfalso; apply e3; simp_all; done)
      | (exfalso; apply e3; simp_all; omega)
  obtain ⟨e3, e4, e5, e6⟩ := e3
  rw [e5] at h3
  rw [e6] at h4
  have h5 := formM_c ho (by omega) _ p f [] 0 (Nat.le_refl _) (by omega) (by omega) (by omega) hps hfs hf e5 e6
  simp only [List.map_nil] at h5
  have hob := outs_bd (p := p) (h := ho) e2 e6
  have em : matchF p ho f = if (mF ho 0 p f []).1 = false then ([], 11)
      else if (fill p (outs (mF ho 0 p f []).2 ho.toNat)).2 ≠ 0 ∨ (fill p (outs (mF ho 0 p f []).2 ho.toNat)).1 ≠ f then ([], 11)
      else if ((mF ho 0 p f []).2.length : Int) < ho then ([], 13) else (outs (mF ho 0 p f []).2 ho.toNat, 0) := by
    simp only [matchF]
    rw [if_neg (by simpa using e1), if_neg (by simpa using e2), if_neg]
    rintro (hc | hc | hc)
    · exact hc ⟨e3, e4⟩
    · rw [e5] at hc; cases hc
    · rw [e6] at hc; cases hc
  have hnew := mF_new ho 266240 p 0 f [] hfs e6 hff
  generalize mF ho 0 p f [] = r at *
  obtain ⟨ok, m⟩ := r
  have h6 := tof_c 4 []
  have hhn : (ho.toNat : Int) = ho := by omega
  refine AC.mk Tryz.func11 rfl rfl rfl rfl rfl (Nat.le_of_ble_eq_true rfl) ?_
  repeat' (first | ((with_reducible refine D.nil ?_); refine AX.nilL ?_) | ((with_reducible refine D.load ?_); first | refine L.ldb rfl rfl rfl rfl rfl rfl ?_ | refine AX.sk rfl rfl ?_ | ((fail_if_success refine AX.wt rfl ?_); refine AX.gs rfl rfl (fun _ => trivial) (fun h => ?_) (fun h => ?_))) | ((with_reducible refine D.move ?_); first | refine L.mv rfl rfl rfl ?_ | refine AX.sk rfl rfl ?_ | ((fail_if_success refine AX.wt rfl ?_); refine AX.gs rfl rfl (fun _ => trivial) (fun h => ?_) (fun h => ?_))) | ((with_reducible refine D.assign ?_); refine L.asg rfl rfl rfl ?_) | ((with_reducible refine D.bin ?_); first | refine L.bn rfl rfl rfl rfl rfl ?_ | refine AX.sk rfl rfl ?_) | ((with_reducible refine D.call ?_); first | refine L.c2 (h1) rfl rfl rfl rfl ?_ | refine L.c2 (h2) rfl rfl rfl rfl ?_ | refine L.c2 (h3) rfl rfl rfl rfl ?_ | refine L.c2 (h4) rfl rfl rfl rfl ?_ | (apply L.cb2 (h5) [3, 2] 0 rfl; rfl; rfl; rfl; rfl; rfl; rfl; (focus ((repeat' (first | exact trivial | refine And.intro ?_ ?_ | refine ⟨_, rfl, _, rfl, _, rfl, ?_⟩ | exact VLe.refl _ | refine ⟨_, rfl, _, _, rfl, ?_, ?_⟩ | with_reducible exact rfl)); done)); rfl; rfl; rfl; rfl) | refine AX.sk rfl rfl ?_) | ((with_reducible refine D.box ?_); refine L.bx rfl rfl rfl rfl ?_) | ((with_reducible refine D.not ?_); first | refine L.nt rfl rfl rfl ?_ | refine AX.sk rfl rfl ?_) | ((with_reducible refine D.pick ?_); refine L.pk rfl rfl rfl rfl ?_) | ((with_reducible refine D.ax ?_); first | refine L.bd rfl rfl rfl rfl rfl ?_ | refine L.mmT rfl rfl rfl rfl rfl ?_) | ((with_reducible refine D.aw ?_); first | refine K.sq (AW.regL ?_) | refine K.sq (K.sq ?_) | refine AW.regL ?_ | refine AW.condT rfl ?_ | refine AW.condF rfl ?_ | refine AW.condS rfl (fun h => ?_) (fun h => ?_) | refine AW.skip ?_ | refine AW.ret ?_) | with_reducible refine K.tN ?_ | with_reducible refine K.tR ?_ | with_reducible refine K.r1 (by with_unfolding_all rfl) (by with_unfolding_all rfl) ?_)
  · exfalso; simp at h; omega
  · exfalso; simp at h; omega
  · have hok : ok = false := by simpa using h
    rw [em]
    simp only [hok, if_true]
    rfl
  have hok : ok = true := by simpa using h
  simp only [hok, if_false, Bool.true_eq_false] at em
  refine AW.range ho.toNat (fun m => True)
    (fun k => ([(1, .i ho), (3, .ptr 0 0), (5, .ptr 1 0), (10, .ptr 3 0), (11, .slice (.own 4) (.t .tm (outs m k))), (52, .i ho), (53, .i k)], ⟨5, [(0, .var p.view), (1, .var f.view), (2, .map .tm (m.map (·.1)) (m.map (·.2))), (3, .var [.i ho, .mp 2]), (4, .row)]⟩))
    (by omega) (fun m => rfl) (fun m => by rw [← hhn]; rfl) rfl trivial (Weak.mk [some 0, some 1, some 2, some 3, none] _ _ _ rfl rfl rfl rfl (by (repeat' (first | exact trivial | refine And.intro ?_ ?_ | refine ⟨_, rfl, _, rfl, ?_⟩ | exact VLe.refl _)); done) (by (repeat' (first | exact trivial | exact Or.inl rfl | refine And.intro ?_ ?_ | refine ⟨_, rfl, _, rfl, _, rfl, ?_⟩ | exact VLe.refl _ | refine ⟨_, rfl, _, _, rfl, ?_, ?_⟩ | with_reducible exact rfl)); done)) ?_ ?_
  · intro k hk _
    have hlen := outs_len m k
    have hs := outs_succ m k
    have hkl := keyAt_look (m := m) (k := (k : Int))
    have hbk := hob (k : Int)
    cases hka : keyAt (k : Int) (m.map (·.1)) with
    | none =>
      rw [hkl.1 hka] at hs hbk
      have hc := ownTm_c _ zeroT (Nat.le_refl _) (by decide)
      repeat' (first | ((with_reducible refine D.nil ?_); refine AX.nilL ?_) | ((with_reducible refine D.load ?_); refine L.ldb rfl rfl rfl rfl rfl rfl ?_) | ((with_reducible refine D.move ?_); refine L.mv rfl rfl rfl ?_) | ((with_reducible refine D.fieldAddr ?_); refine L.fab rfl rfl rfl rfl rfl ?_) | ((with_reducible refine D.assign ?_); refine L.asg rfl rfl rfl ?_) | ((with_reducible refine D.call ?_); first | refine L.apt rfl rfl rfl rfl rfl rfl (by first | exact trivial | exact ⟨rfl, trivial⟩) rfl rfl (by first | omega | (simp; omega)) ?_ | refine L.c2 (h6) rfl rfl rfl rfl ?_ | refine L.c2 (hc) rfl rfl rfl rfl ?_) | ((with_reducible refine D.extract ?_); refine L.ex rfl rfl rfl rfl ?_) | ((with_reducible refine D.alloc ?_); refine L.al rfl rfl rfl ?_) | ((with_reducible refine D.store ?_); refine L.st rfl rfl rfl rfl rfl rfl rfl rfl rfl ?_) | ((with_reducible refine D.not ?_); refine L.nt rfl rfl rfl ?_) | ((with_reducible refine D.ax ?_); first | refine L.nc rfl rfl rfl rfl ?_ | refine L.bs1 rfl rfl rfl rfl rfl (EC.fold_of rfl) rfl rfl ?_ | refine L.lkn rfl rfl rfl rfl rfl rfl (by first | assumption | rfl) rfl rfl rfl ?_) | ((with_reducible refine D.aw ?_); first | refine K.sq (AW.regL ?_) | refine K.sq (K.sq ?_) | refine AW.regL ?_ | refine AW.condT rfl ?_) | with_reducible refine K.tN ?_ | with_reducible refine K.bN ?_)
      exact ⟨rfl, trivial, (Weak.mk [some 0, some 1, some 2, some 3, some 6] _ _ _ rfl rfl rfl rfl (by (repeat' (first | exact trivial | refine And.intro ?_ ?_ | refine ⟨_, rfl, _, rfl, ?_⟩ | exact VLe.refl _ | exact VLe.of_eq (by simp [Sto.upd, hs, zeroT]))); done) (by (repeat' (first | exact trivial | exact Or.inr ⟨_, rfl, rfl⟩ | refine And.intro ?_ ?_ | refine ⟨_, rfl, _, rfl, _, rfl, ?_⟩ | exact VLe.refl _ | refine ⟨_, rfl, _, _, rfl, ?_, ?_⟩ | with_reducible exact rfl)); done))⟩
    | some i =>
      have hil : i < m.length := by have := (keyAt_some hka).2; simpa using this
      have hc0 : (m.map (·.2))[i]? = some (m[i]).2 := by rw [List.getElem?_map, List.getElem?_eq_getElem hil]; rfl
      have h7 := hkl.2 i hka
      rw [hc0] at h7
      rw [h7] at hs hbk
      simp only [Option.getD_some] at hs hbk
      have hc := ownTm_c _ (m[i]).2 (Nat.le_refl _) (by omega)
      repeat' (first | ((with_reducible refine D.nil ?_); refine AX.nilL ?_) | ((with_reducible refine D.load ?_); refine L.ldb rfl rfl rfl rfl rfl rfl ?_) | ((with_reducible refine D.move ?_); refine L.mv rfl rfl rfl ?_) | ((with_reducible refine D.fieldAddr ?_); refine L.fab rfl rfl rfl rfl rfl ?_) | ((with_reducible refine D.assign ?_); refine L.asg rfl rfl rfl ?_) | ((with_reducible refine D.call ?_); first | refine L.apt rfl rfl rfl rfl rfl rfl (by first | exact trivial | exact ⟨rfl, trivial⟩) rfl rfl (by first | omega | (simp; omega)) ?_ | refine L.c2 (hc) rfl rfl rfl rfl ?_) | ((with_reducible refine D.extract ?_); refine L.ex rfl rfl rfl rfl ?_) | ((with_reducible refine D.alloc ?_); refine L.al rfl rfl rfl ?_) | ((with_reducible refine D.store ?_); refine L.st rfl rfl rfl rfl rfl rfl rfl rfl rfl ?_) | ((with_reducible refine D.not ?_); refine L.nt rfl rfl rfl ?_) | ((with_reducible refine D.ax ?_); first | refine L.nc rfl rfl rfl rfl ?_ | refine L.bs1 rfl rfl rfl rfl rfl (EC.fold_of rfl) rfl rfl ?_ | refine L.lkuT rfl rfl rfl rfl rfl rfl (by first | assumption | rfl) (by first | assumption | rfl) rfl ?_) | ((with_reducible refine D.aw ?_); first | refine K.sq (AW.regL ?_) | refine K.sq (K.sq ?_) | refine AW.regL ?_ | refine AW.condF rfl ?_ | refine AW.skip ?_) | with_reducible refine K.tN ?_ | with_reducible refine K.bN ?_)
      exact ⟨rfl, trivial, (Weak.mk [some 0, some 1, some 2, some 3, some 6] _ _ _ rfl rfl rfl rfl (by (repeat' (first | exact trivial | refine And.intro ?_ ?_ | refine ⟨_, rfl, _, rfl, ?_⟩ | exact VLe.refl _ | exact VLe.of_eq (by simp [Sto.upd, hs]))); done) (by (repeat' (first | exact trivial | exact Or.inr ⟨_, rfl, rfl⟩ | refine And.intro ?_ ?_ | refine ⟨_, rfl, _, rfl, _, rfl, ?_⟩ | exact VLe.refl _ | refine ⟨_, rfl, _, _, rfl, ?_, ?_⟩ | with_reducible exact rfl)); done))⟩
  · intro _
    have h8 := fill_c p (outs m ho.toNat) (by omega) (by rw [outs_len]; omega) (fun t ht => by
      obtain ⟨j, hj, rfl⟩ := List.mem_map.1 ht
      have := hob (j : Int)
      simp only at this; omega)
    have h9 := fsame_c (fill p (outs m ho.toNat)).1 f (by have := fill_bd (p := p) (l := outs m ho.toNat); omega)
    have hml : (m.map (·.2)).length = m.length := List.length_map ..
    repeat' (first | ((with_reducible refine D.nil ?_); refine AX.nilL ?_) | ((with_reducible refine D.load ?_); first | refine L.ldb rfl rfl rfl rfl rfl rfl ?_ | refine AX.sk rfl rfl ?_ | ((fail_if_success refine AX.wt rfl ?_); refine AX.gs rfl rfl (fun _ => trivial) (fun h => ?_) (fun h => ?_))) | ((with_reducible refine D.move ?_); refine L.mv rfl rfl rfl ?_) | ((with_reducible refine D.fieldAddr ?_); refine L.fab rfl rfl rfl rfl rfl ?_) | ((with_reducible refine D.assign ?_); refine L.asg rfl rfl rfl ?_) | ((with_reducible refine D.bin ?_); refine L.bn rfl rfl rfl rfl rfl ?_) | ((with_reducible refine D.call ?_); first | refine L.c2 (h8) rfl rfl rfl rfl ?_ | refine L.c2 (h9) rfl rfl rfl rfl ?_ | refine AX.sk rfl rfl ?_ | refine L.lnm rfl rfl rfl rfl rfl ?_) | ((with_reducible refine D.extract ?_); refine L.ex rfl rfl rfl rfl ?_) | ((with_reducible refine D.alloc ?_); refine L.al rfl rfl rfl ?_) | ((with_reducible refine D.store ?_); refine L.st rfl rfl rfl rfl rfl rfl rfl rfl rfl ?_) | ((with_reducible refine D.not ?_); first | refine L.nt rfl rfl rfl ?_ | refine AX.sk rfl rfl ?_) | ((with_reducible refine D.pick ?_); refine L.pk rfl rfl rfl rfl ?_) | ((with_reducible refine D.ax ?_); refine L.nc rfl rfl rfl rfl ?_) | ((with_reducible refine D.aw ?_); first | refine K.sq (AW.regL ?_) | refine K.sq (K.sq ?_) | refine AW.regL ?_ | refine AW.condT rfl ?_ | refine AW.condS rfl (fun h => ?_) (fun h => ?_) | refine AW.skip ?_ | refine AW.ret ?_) | with_reducible refine K.tN ?_ | with_reducible refine K.tR ?_ | with_reducible refine K.r1 (by with_unfolding_all rfl) (by with_unfolding_all rfl) ?_)
    · have hx : (fill p (outs m ho.toNat)).2 ≠ 0 := by simpa using h
      rw [em, if_pos (.inl hx)]
      rfl
    · have hx : (fill p (outs m ho.toNat)).1 ≠ f := by simpa using h
      rw [em, if_pos (.inr hx)]
      rfl
    · rename_i h10 h11
      have hx : ¬ (fill p (outs m ho.toNat)).2 ≠ 0 := by simpa using h10
      have hy : ¬ (fill p (outs m ho.toNat)).1 ≠ f := by simpa using h11
      have hz : (m.length : Int) < ho := by simpa using h
      rw [em, if_neg (fun hc => hc.elim hx hy), if_pos hz]
      rfl
    · rename_i h10 h11
      have hx : ¬ (fill p (outs m ho.toNat)).2 ≠ 0 := by simpa using h10
      have hy : ¬ (fill p (outs m ho.toNat)).1 ≠ f := by simpa using h11
      have hz : ¬ (m.length : Int) < ho := by simpa using h
      rw [em, if_neg (fun hc => hc.elim hx hy), if_neg hz]
      rfl
end Go.Ab
namespace Go.Ab
open Go Go.Proofs
set_option maxRecDepth 100000
set_option maxHeartbeats 4000000
set_option linter.all false
theorem sane18_c : PC E 6 [] (.bool true) := by
  have hm : matchF (eqF (.mk 1 0 (.mk 0 []) []) (numOf 0)) 1 (eqF (.mk 5 0 (.mk 0 []) [.mk 1 3 (.mk 0 []) []]) (numOf 0)) = ([.mk 5 0 (.mk 0 []) [.mk 1 3 (.mk 0 []) []]], 0) := by decide
  have hc := match_c (eqF (.mk 1 0 (.mk 0 []) []) (numOf 0)) (eqF (.mk 5 0 (.mk 0 []) [.mk 1 3 (.mk 0 []) []]) (numOf 0)) 1 (by decide) (by decide)
  rw [hm] at hc
  have h1 := eqFm_c (.mk 1 0 (.mk 0 []) []) (numOf 0) (by decide) (by decide)
  have h2 := eqFm_c (.mk 5 0 (.mk 0 []) [.mk 1 3 (.mk 0 []) []]) (numOf 0) (by decide) (by decide)
  have h3 := n_c 5 [.mk 1 3 (.mk 0 []) []] (by decide)
  have h4 := sameTm_c _ (.mk 5 0 (.mk 0 []) [.mk 1 3 (.mk 0 []) []]) (.mk 5 0 (.mk 0 []) [.mk 1 3 (.mk 0 []) []]) (Nat.le_refl _) (by decide)
  refine AC.mk Tryz.func6 rfl rfl rfl rfl rfl (Nat.le_of_ble_eq_true rfl) ?_
  repeat' (first | ((with_reducible refine D.nil ?_); first | refine AX.nilL ?_ | refine AX.nilD (by kernel_rfl) ?_) | ((with_reducible refine D.load ?_); first | refine L.ldb rfl rfl rfl rfl rfl rfl ?_ | refine L.lda rfl rfl rfl rfl rfl ?_ | refine AX.sk rfl rfl ?_ | ((fail_if_success refine AX.wt rfl ?_); refine AX.gs rfl rfl (fun _ => trivial) (fun h => ?_) (fun h => ?_))) | ((with_reducible refine D.move ?_); first | refine L.mv rfl rfl rfl ?_ | refine AX.sk rfl rfl ?_ | ((fail_if_success refine AX.wt rfl ?_); refine AX.gs rfl rfl (fun _ => trivial) (fun h => ?_) (fun h => ?_))) | ((with_reducible refine D.fieldAddr ?_); first | refine L.fab rfl rfl rfl rfl rfl ?_ | refine L.faa rfl rfl rfl rfl rfl rfl ?_ | refine AX.sk rfl rfl ?_ | ((fail_if_success refine AX.wt rfl ?_); refine AX.gs rfl rfl (fun _ => trivial) (fun h => ?_) (fun h => ?_))) | ((with_reducible refine D.assign ?_); first | refine L.asg rfl rfl rfl ?_ | refine AX.sk rfl rfl ?_ | ((fail_if_success refine AX.wt rfl ?_); refine AX.gs rfl rfl (fun _ => trivial) (fun h => ?_) (fun h => ?_))) | ((with_reducible refine D.bin ?_); first | refine L.ad rfl rfl rfl rfl (by omega) ?_ | refine L.sb rfl rfl rfl rfl (by omega) ?_ | refine L.ml rfl rfl rfl rfl (by first | omega | assumption) ?_ | refine L.rm rfl rfl rfl rfl (by omega) ?_ | refine L.bn rfl rfl rfl rfl rfl ?_ | refine AX.sk rfl rfl ?_ | ((fail_if_success refine AX.wt rfl ?_); refine AX.gs rfl rfl (fun _ => trivial) (fun h => ?_) (fun h => ?_)) | refine L.be rfl rfl rfl rfl rfl ?_ | refine L.bnq rfl rfl rfl rfl rfl ?_) | ((with_reducible refine D.call ?_); first | refine L.lnt rfl rfl rfl rfl ?_ | refine L.ln rfl rfl rfl rfl ?_ | refine L.apt rfl rfl rfl rfl rfl rfl (by first | exact trivial | exact ⟨rfl, trivial⟩) rfl rfl (by first | omega | (simp; omega)) ?_ | refine L.aptF rfl rfl rfl rfl (by first | assumption | simp) rfl rfl rfl (by first | omega | (simp; omega)) ?_ | refine L.c2 (var_c _) rfl rfl rfl rfl ?_ | refine L.c2 (num_c 0) rfl rfl rfl rfl ?_ | refine L.c2 (h1) rfl rfl rfl rfl ?_ | refine L.c2 (h2) rfl rfl rfl rfl ?_ | refine L.c2 (h3) rfl rfl rfl rfl ?_ | refine L.c2 (hc) rfl rfl rfl rfl ?_ | refine L.c2 (h4) rfl rfl rfl rfl ?_ | refine AX.sk rfl rfl ?_ | ((fail_if_success refine AX.wt rfl ?_); refine AX.gs rfl rfl (fun _ => trivial) (fun h => ?_) (fun h => ?_)) | refine L.apE rfl rfl rfl rfl rfl rfl rfl ?_ | refine L.lnm rfl rfl rfl rfl rfl ?_) | ((with_reducible refine D.extract ?_); first | refine L.ex rfl rfl rfl rfl ?_ | refine AX.sk rfl rfl ?_ | ((fail_if_success refine AX.wt rfl ?_); refine AX.gs rfl rfl (fun _ => trivial) (fun h => ?_) (fun h => ?_))) | ((with_reducible refine D.box ?_); first | refine L.bx rfl rfl rfl rfl ?_ | refine AX.sk rfl rfl ?_ | ((fail_if_success refine AX.wt rfl ?_); refine AX.gs rfl rfl (fun _ => trivial) (fun h => ?_) (fun h => ?_))) | ((with_reducible refine D.alloc ?_); first | refine L.al rfl rfl rfl ?_ | refine AX.sk rfl rfl ?_ | ((fail_if_success refine AX.wt rfl ?_); refine AX.gs rfl rfl (fun _ => trivial) (fun h => ?_) (fun h => ?_))) | ((with_reducible refine D.store ?_); first | refine L.st rfl rfl rfl rfl rfl rfl rfl rfl rfl ?_ | refine AX.sk rfl rfl ?_ | ((fail_if_success refine AX.wt rfl ?_); refine AX.gs rfl rfl (fun _ => trivial) (fun h => ?_) (fun h => ?_))) | ((with_reducible refine D.indexAddr ?_); first | refine L.ixt _ rfl rfl rfl rfl rfl rfl rfl (by first | assumption | omega | (simp only [Ty.args_mk, Tm.args_mk, List.length_cons, List.length_nil, List.getElem_cons_zero, List.getElem_cons_succ]; omega) | (simp at *; omega) | (simp; done)) ?_ | refine L.ixt 0 rfl rfl rfl rfl rfl rfl rfl (by first | assumption | omega | (simp only [Ty.args_mk, Tm.args_mk, List.length_cons, List.length_nil, List.getElem_cons_zero, List.getElem_cons_succ]; omega) | (simp at *; omega) | (simp; done)) ?_ | refine L.ixt 1 rfl rfl rfl rfl rfl rfl rfl (by first | assumption | omega | (simp only [Ty.args_mk, Tm.args_mk, List.length_cons, List.length_nil, List.getElem_cons_zero, List.getElem_cons_succ]; omega) | (simp at *; omega) | (simp; done)) ?_ | refine L.ixt 2 rfl rfl rfl rfl rfl rfl rfl (by first | assumption | omega | (simp only [Ty.args_mk, Tm.args_mk, List.length_cons, List.length_nil, List.getElem_cons_zero, List.getElem_cons_succ]; omega) | (simp at *; omega) | (simp; done)) ?_ | refine AX.sk rfl rfl ?_ | ((fail_if_success refine AX.wt rfl ?_); refine AX.gs rfl rfl (fun _ => trivial) (fun h => ?_) (fun h => ?_)) | refine L.ixb 0 rfl rfl rfl rfl rfl (by decide) rfl ?_ | refine L.ixb 1 rfl rfl rfl rfl rfl (by decide) rfl ?_ | refine L.ixb 2 rfl rfl rfl rfl rfl (by decide) rfl ?_) | ((with_reducible refine D.not ?_); first | refine L.nt rfl rfl rfl ?_ | refine AX.sk rfl rfl ?_ | ((fail_if_success refine AX.wt rfl ?_); refine AX.gs rfl rfl (fun _ => trivial) (fun h => ?_) (fun h => ?_))) | ((with_reducible refine D.field ?_); first | refine L.fd rfl rfl rfl rfl rfl rfl ?_ | refine AX.sk rfl rfl ?_ | ((fail_if_success refine AX.wt rfl ?_); refine AX.gs rfl rfl (fun _ => trivial) (fun h => ?_) (fun h => ?_))) | ((with_reducible refine D.pick ?_); first | refine L.pk rfl rfl rfl rfl ?_ | refine AX.sk rfl rfl ?_ | ((fail_if_success refine AX.wt rfl ?_); refine AX.gs rfl rfl (fun _ => trivial) (fun h => ?_) (fun h => ?_))) | ((with_reducible refine D.ax ?_); first | refine L.nc rfl rfl rfl rfl ?_ | refine L.bd rfl rfl rfl rfl rfl ?_ | refine L.bs1 rfl rfl rfl rfl rfl (EC.fold_of rfl) rfl rfl ?_ | refine L.bs1 rfl rfl rfl rfl rfl rfl rfl rfl ?_ | refine L.bs2 rfl rfl rfl rfl rfl (EC.fold_of rfl) rfl rfl rfl (EC.fold_of rfl) rfl rfl ?_ | refine L.bs2 rfl rfl rfl rfl rfl rfl rfl rfl rfl rfl rfl rfl ?_ | refine L.bs3 rfl rfl rfl rfl rfl (EC.fold_of rfl) rfl rfl rfl (EC.fold_of rfl) rfl rfl rfl (EC.fold_of rfl) rfl rfl ?_ | refine L.bs3 rfl rfl rfl rfl rfl rfl rfl rfl rfl rfl rfl rfl rfl rfl rfl rfl ?_ | refine L.bs 0 rfl rfl rfl rfl rfl rfl rfl rfl rfl rfl ?_ | refine L.mf rfl rfl rfl rfl ?_ | refine L.s3 rfl rfl rfl rfl rfl rfl ?_ | refine AX.sk rfl rfl ?_ | ((fail_if_success refine AX.wt rfl ?_); refine AX.gs rfl rfl (fun _ => trivial) (fun h => ?_) (fun h => ?_)) | refine L.sl rfl rfl rfl rfl rfl rfl rfl (by first | omega | (simp only [List.length_cons, List.length_nil]; omega) | (simp; omega) | simp) ?_ | refine L.cvi rfl rfl rfl rfl rfl (by omega) ?_ | refine L.mmT rfl rfl rfl rfl rfl ?_ | refine L.mmB rfl rfl rfl rfl rfl ?_ | refine L.lkuT rfl rfl rfl rfl rfl rfl (by first | assumption | rfl) (by first | assumption | rfl) rfl ?_ | refine L.lkn rfl rfl rfl rfl rfl rfl (by first | assumption | rfl) rfl rfl rfl ?_ | refine L.muT rfl rfl rfl rfl rfl rfl (EC.fold_of rfl) rfl rfl ?_ | refine L.muT rfl rfl rfl rfl rfl rfl rfl rfl rfl ?_ | refine L.muB rfl rfl rfl rfl rfl rfl rfl rfl ?_) | ((with_reducible refine D.aw ?_); first | ((with_reducible refine D.sblk ?_); refine K.sq (AW.block ?_)) | ((with_reducible refine D.blk ?_); refine AW.block ?_) | refine K.sq (AW.regL ?_) | refine K.sq (AW.regD mixed (by kernel_rfl) ?_) | refine K.sq (K.sq ?_) | refine AW.regL ?_ | refine AW.regD mixed (by kernel_rfl) ?_ | refine K.sq (AW.condT rfl ?_) | refine K.sq (AW.condF rfl ?_) | refine AW.condT rfl ?_ | refine AW.condF rfl ?_ | refine K.sq (AW.condS rfl (fun h => ?_) (fun h => ?_)) | refine AW.condS rfl (fun h => ?_) (fun h => ?_) | refine AW.skip ?_ | refine AW.ret ?_ | refine AW.exit ?_ | refine K.sq (AW.label ?_) | refine AW.label ?_ | refine AW.goto ?_) | with_reducible refine K.tN ?_ | with_reducible refine K.bN ?_ | with_reducible refine K.tR ?_ | with_reducible refine K.bR ?_ | with_reducible refine K.gR ?_ | with_reducible refine K.dR ?_ | with_reducible refine K.cR ?_ | with_reducible refine K.lR ?_ | with_reducible refine K.tE ?_ | with_reducible refine K.bX (by with_unfolding_all rfl) ?_ | with_reducible refine K.bO (by with_unfolding_all rfl) ?_ | with_reducible refine K.gE (by with_unfolding_all rfl) ?_ | with_reducible refine K.gO (by with_unfolding_all rfl) ?_ | with_reducible refine K.cE ?_ | with_reducible refine K.lE ?_ | with_reducible refine K.r1 (by with_unfolding_all rfl) (by with_unfolding_all rfl) ?_ | with_reducible refine K.n1 (by with_unfolding_all rfl) (by with_unfolding_all rfl) ?_ | ((with_reducible show @LE.le Nat _ _ _); omega) | ((with_reducible show @LT.lt Nat _ _ _); omega) | with_reducible refine K.hR ?_ | with_reducible refine K.tG ?_ | with_reducible refine K.bG ?_ | with_reducible refine K.fR ?_ | with_reducible refine K.pR ?_)
  all_goals rfl
end Go.Ab
namespace Go.Ab
open Go Go.Proofs
set_option maxRecDepth 100000
set_option maxHeartbeats 4000000
set_option linter.all false
def Dk.pt (d : Dk) : List Ty × List Tm × Dk := Dk.pat d.ctx.1 (d.ctx.2.next 4).2 (d.ctx.2.next 4).1.toNat
theorem pattern_c (d : Dk) (hd : d.ok) : AC E 9 [.ptr 0 0] ⟨1, [(0, .var d.cells)]⟩ (.tup [.s .ty d.ctx.1, .agg (Dk.fm 2 d.pt.2.2 d.pt.1).1.view, .s .tm d.pt.2.1]) ⟨1, [(0, .var (Dk.fm 2 d.pt.2.2 d.pt.1).2.cells)]⟩ := by
  have hcx := context_c d hd
  have hg := Dk.ctx_smalls d
  have hgl := Dk.ctx_len d
  have d1 := Dk.ctx_ok hd
  have hn := next_c d.ctx.2 4 d1 (by omega)
  have hb := Dk.next_bd d.ctx.2 4 (by omega)
  have d2 := Dk.next_ok d1 4
  have hpt : d.pt = Dk.pat d.ctx.1 (d.ctx.2.next 4).2 (d.ctx.2.next 4).1.toNat := rfl
  generalize d.ctx.1 = g at *
  generalize d.ctx.2 = D1 at *
  obtain ⟨c, hc⟩ : ∃ c : Nat, (D1.next 4).1 = c := ⟨(D1.next 4).1.toNat, by omega⟩
  rw [hc] at hn hb hpt
  generalize (D1.next 4).2 = D2 at *
  simp only [Int.toNat_natCast] at hpt
  rw [hpt]
  refine AC.mk Tryz.func9 rfl rfl rfl rfl rfl (Nat.le_of_ble_eq_true rfl) ?_
  repeat' (first | ((with_reducible refine D.nil ?_); refine AX.nilL ?_) | ((with_reducible refine D.move ?_); refine L.mv rfl rfl rfl ?_) | ((with_reducible refine D.assign ?_); refine L.asg rfl rfl rfl ?_) | ((with_reducible refine D.call ?_); first | refine L.apt rfl rfl rfl rfl rfl rfl (by first | exact trivial | exact ⟨rfl, trivial⟩) rfl rfl (by first | omega | (simp; omega)) ?_ | (apply L.cb2 (hcx) [0] 0 rfl; rfl; rfl; rfl; rfl; rfl; rfl; (focus ((repeat' (first | exact trivial | refine And.intro ?_ ?_ | refine ⟨_, rfl, _, rfl, _, rfl, ?_⟩ | exact VLe.refl _)); done)); rfl; rfl; rfl; rfl) | (apply L.cb2 (hn) [0] 0 rfl; rfl; rfl; rfl; rfl; rfl; rfl; (focus ((repeat' (first | exact trivial | refine And.intro ?_ ?_ | refine ⟨_, rfl, _, rfl, _, rfl, ?_⟩ | exact VLe.refl _)); done)); rfl; rfl; rfl; rfl)) | ((with_reducible refine D.alloc ?_); refine L.al rfl rfl rfl ?_) | ((with_reducible refine D.aw ?_); first | refine K.sq (AW.regL ?_) | refine K.sq (K.sq ?_) | refine AW.regL ?_) | with_reducible refine K.tN ?_)
  refine AW.down c (fun m => m ≤ c)
    (fun m => ([(0, .ptr 0 0), (3, .ptr 1 0), (5, .s .ty g), (6, .slice (.own 2) (.t .ty (Dk.pat g D2 (c - m)).1)), (7, .s .tm (Dk.pat g D2 (c - m)).2.1), (8, .i m)], ⟨3, [(0, .var (Dk.pat g D2 (c - m)).2.2.cells), (1, .var [.i 0, .i 0, .slice .nil (.t .ty []), .slice .nil (.t .tm []), .slice .nil (.t .fm [])]), (2, .row)]⟩))
    (by omega) (fun m => rfl) rfl (Nat.le_refl _) ?_ ?_ ?_
  · simp only [Nat.sub_self]
    exact (Weak.mk [some 0, some 1, some 2] _ _ _ rfl rfl rfl rfl (by (repeat' (first | exact trivial | refine And.intro ?_ ?_ | refine ⟨_, rfl, _, rfl, ?_⟩ | exact VLe.refl _ | exact VLe.any _ _)); done) (by (repeat' (first | exact trivial | exact Or.inr ⟨_, rfl, rfl⟩ | refine And.intro ?_ ?_ | refine ⟨_, rfl, _, rfl, _, rfl, ?_⟩ | exact VLe.refl _)); done))
  · intro m hm hP
    have e1 : (Dk.pat g D2 (c - m)).1 = (Dk.pat g D2 (c - (m + 1))).1 ++ [((Dk.pat g D2 (c - (m + 1))).2.2.type 0).1] := by rw [show c - m = c - (m + 1) + 1 by omega]; rfl
    have e2 : (Dk.pat g D2 (c - m)).2.1 = (Dk.tm 4 ((Dk.pat g D2 (c - (m + 1))).2.2.type 0).2 g ((Dk.pat g D2 (c - (m + 1))).2.2.type 0).1).1 :: (Dk.pat g D2 (c - (m + 1))).2.1 := by rw [show c - m = c - (m + 1) + 1 by omega]; rfl
    have e3 : (Dk.pat g D2 (c - m)).2.2 = (Dk.tm 4 ((Dk.pat g D2 (c - (m + 1))).2.2.type 0).2 g ((Dk.pat g D2 (c - (m + 1))).2.2.type 0).1).2 := by rw [show c - m = c - (m + 1) + 1 by omega]; rfl
    have dk := Dk.pat_ok (g := g) d2 (c - (m + 1))
    obtain ⟨Ls, l1, l2, l3, l4⟩ := Dk.pat_ex hg D2 (c - (m + 1))
    have hl1 : (Dk.pat g D2 (c - (m + 1))).1.length ≤ 10 := by rw [l1]; simp; omega
    have hl2 : (Dk.pat g D2 (c - (m + 1))).2.1.length ≤ 10 := by rw [l2]; simp; omega
    generalize Dk.pat g D2 (c - (m + 1)) = r at *
    have hty := type0_c r.2.2 dk
    have s0 := Dk.type0 r.2.2
    have s0' := small_one s0.1 s0.2
    have dk2 := Dk.type_ok 0 _ dk
    have htm := term_c 4 (by omega) (r.2.2.type 0).2 g (r.2.2.type 0).1 2 (by omega) dk2 hg s0' (by omega) (by omega) (by omega)
    clear l1 l2 l3
    obtain ⟨r1, r2, r3⟩ := r
    simp only at *
    cases r2
    all_goals
      try simp only [List.length_cons] at hl2
      repeat' (first | ((with_reducible refine D.nil ?_); refine AX.nilL ?_) | ((with_reducible refine D.load ?_); refine L.ldb rfl rfl rfl rfl rfl rfl ?_) | ((with_reducible refine D.move ?_); refine L.mv rfl rfl rfl ?_) | ((with_reducible refine D.assign ?_); refine L.asg rfl rfl rfl ?_) | ((with_reducible refine D.call ?_); first | refine L.apt rfl rfl rfl rfl rfl rfl (by first | exact trivial | exact ⟨rfl, trivial⟩) rfl rfl (by first | omega | (simp; omega)) ?_ | refine L.aptF rfl rfl rfl rfl (by first | assumption | simp) rfl rfl rfl (by first | omega | (simp; omega)) ?_ | (apply L.cb2 (hty) [0] 0 rfl; rfl; rfl; rfl; rfl; rfl; rfl; (focus ((repeat' (first | exact trivial | refine And.intro ?_ ?_ | refine ⟨_, rfl, _, rfl, _, rfl, ?_⟩ | exact VLe.refl _)); done)); rfl; rfl; rfl; rfl) | (apply L.cb2 (htm) [0] 0 rfl; rfl; rfl; rfl; rfl; rfl; rfl; (focus ((repeat' (first | exact trivial | refine And.intro ?_ ?_ | refine ⟨_, rfl, _, rfl, _, rfl, ?_⟩ | exact VLe.refl _)); done)); rfl; rfl; rfl; rfl) | refine L.apE rfl rfl rfl rfl rfl rfl rfl ?_) | ((with_reducible refine D.alloc ?_); refine L.al rfl rfl rfl ?_) | ((with_reducible refine D.store ?_); refine L.st rfl rfl rfl rfl rfl rfl rfl rfl rfl ?_) | ((with_reducible refine D.ax ?_); refine L.bs1 rfl rfl rfl rfl rfl (EC.fold_of rfl) rfl rfl ?_) | ((with_reducible refine D.aw ?_); first | refine K.sq (AW.regL ?_) | refine AW.regL ?_) | with_reducible refine K.tN ?_ | with_reducible refine K.bN ?_)
      refine ⟨rfl, by omega, ?_⟩
      simp only [e1, e2, e3]
      exact (Weak.mk [some 0, some 1, some 4] _ _ _ rfl rfl rfl rfl (by (repeat' (first | exact trivial | refine And.intro ?_ ?_ | refine ⟨_, rfl, _, rfl, ?_⟩ | exact VLe.refl _ | exact VLe.any _ _)); done) (by (repeat' (first | exact trivial | exact Or.inr ⟨_, rfl, rfl⟩ | refine And.intro ?_ ?_ | refine ⟨_, rfl, _, rfl, _, rfl, ?_⟩ | exact VLe.refl _)); done))
  · intro _
    simp only [Nat.sub_zero]
    have dk := Dk.pat_ok (g := g) d2 c
    obtain ⟨Ls, l1, l2, l3, l4⟩ := Dk.pat_ex hg D2 c
    have hl1 : (Dk.pat g D2 c).1.length ≤ 10 := by rw [l1]; simp; omega
    have hsm : smalls (Dk.pat g D2 c).1 := by
      rw [l1]
      refine smalls_app hg fun x hx => ?_
      rw [List.mem_reverse] at hx
      obtain ⟨q, hq, rfl⟩ := List.mem_map.1 hx
      exact (l4 q hq).2
    generalize Dk.pat g D2 c = r at *
    have hfm := mkFm_c 2 r.2.2 r.1 2 (by omega) rfl dk hsm (by omega)
    repeat' (first | ((with_reducible refine D.nil ?_); refine AX.nilL ?_) | ((with_reducible refine D.move ?_); refine L.mv rfl rfl rfl ?_) | ((with_reducible refine D.assign ?_); refine L.asg rfl rfl rfl ?_) | ((with_reducible refine D.call ?_); (apply L.cb2 (hfm) [0] 0 rfl; rfl; rfl; rfl; rfl; rfl; rfl; (focus ((repeat' (first | exact trivial | refine And.intro ?_ ?_ | refine ⟨_, rfl, _, rfl, _, rfl, ?_⟩ | exact VLe.refl _)); done)); rfl; rfl; rfl; rfl)) | ((with_reducible refine D.store ?_); refine L.st rfl rfl rfl rfl rfl rfl rfl rfl rfl ?_) | ((with_reducible refine D.aw ?_); first | refine K.sq (AW.regL ?_) | refine AW.ret ?_) | with_reducible refine K.tN ?_)
    (exact K.n2 [some 0] rfl rfl rfl rfl rfl (by (repeat' (first | exact trivial | refine And.intro ?_ ?_ | refine ⟨_, rfl, _, rfl, _, rfl, ?_⟩ | exact VLe.refl _)); done) rfl (by simp [tupV, V.wk, V.wks, constV, Ty.view, Tm.view, Fm.view]))
end Go.Ab
namespace Go.Ab
open Go Go.Proofs
set_option maxRecDepth 100000
set_option maxHeartbeats 4000000
set_option linter.all false
theorem elaborateBack_c (l : List Int) : PC E 3 [.s .int l] (.bool true) := by
  by_cases hl : l.length ≤ 500
  case neg =>
    have hf := few_f l hl
    refine AC.mk Tryz.func3 rfl rfl rfl rfl rfl (Nat.le_of_ble_eq_true rfl) ?_
    repeat' (first | ((with_reducible refine D.nil ?_); refine AX.nilL ?_) | ((with_reducible refine D.move ?_); refine L.mv rfl rfl rfl ?_) | ((with_reducible refine D.assign ?_); refine L.asg rfl rfl rfl ?_) | ((with_reducible refine D.call ?_); first | refine L.c2 (sane18_c) rfl rfl rfl rfl ?_ | refine L.c2 (hf) rfl rfl rfl rfl ?_) | ((with_reducible refine D.not ?_); refine L.nt rfl rfl rfl ?_) | ((with_reducible refine D.aw ?_); first | refine K.sq (AW.regL ?_) | refine K.sq (K.sq ?_) | refine AW.regL ?_ | refine AW.condT rfl ?_ | refine AW.condF rfl ?_ | refine AW.skip ?_ | refine AW.ret ?_) | with_reducible refine K.tN ?_ | with_reducible refine K.tR ?_ | with_reducible refine K.r1 (by with_unfolding_all rfl) (by with_unfolding_all rfl) ?_)
    rfl
  have hf := few_t l hl
  have hn := new_c l
  have d0 := deck_ok hl
  have hpt := pattern_c (Dk.mk l 0) d0
  have hg := Dk.ctx_smalls (Dk.mk l 0)
  have hgl := Dk.ctx_len (Dk.mk l 0)
  have hb := Dk.next_bd (Dk.mk l 0).ctx.2 4 (by omega)
  obtain ⟨Ls, l1, l2, l3, l4⟩ := Dk.pat_ex hg ((Dk.mk l 0).ctx.2.next 4).2 ((Dk.mk l 0).ctx.2.next 4).1.toNat
  have e1 : (Dk.mk l 0).pt.1 = (Dk.mk l 0).ctx.1 ++ (Ls.map (·.2)).reverse := l1
  have e2 : (Dk.mk l 0).pt.2.1 = Ls.map (·.1) := l2
  have hL : Ls.length ≤ 3 := by omega
  clear l1 l2 l3
  generalize (Dk.mk l 0).ctx.1 = g at *
  generalize (Dk.mk l 0).pt = r at *
  obtain ⟨all, own, D3⟩ := r
  simp only at hpt e1 e2
  have hall : smalls all := by
    rw [e1]
    refine smalls_app hg fun x hx => ?_
    rw [List.mem_reverse] at hx
    obtain ⟨q, hq, rfl⟩ := List.mem_map.1 hx
    exact (l4 q hq).2
  have hgood := Dk.fm_good 2 D3 all hall
  have hok := Dk.fm_okT 2 D3 all hall
  generalize (Dk.fm 2 D3 all).2 = D4 at *
  generalize (Dk.fm 2 D3 all).1 = p at *
  rw [e1] at hok
  obtain ⟨hsh, hsz, hfu⟩ := hgood
  have hpf : p.full ≤ 4800 := by have : (2 : Nat) ^ 2 = 4 := rfl; rw [this] at hfu; omega
  have hpe : p.err = 0 := (Fm.err_iff p).2 ⟨hsh, by have : (2 : Nat) ^ 2 = 4 := rfl; rw [this] at hsz; omega⟩
  have hol : own.length = Ls.length := by rw [e2]; simp
  have hfi : ∀ s ∈ own, fine s := fun s hs => by
    rw [e2] at hs
    obtain ⟨q, hq, rfl⟩ := List.mem_map.1 hs
    exact mk_fine (l4 q hq).1 hg (l4 q hq).2 (by omega) (by omega)
  have hfl : ∀ s ∈ own, s.full < 2000 := fun s hs => by
    rw [e2] at hs
    obtain ⟨q, hq, rfl⟩ := List.mem_map.1 hs
    have := (l4 q hq).1.full hg (l4 q hq).2
    have h34 : (3 : Nat) ^ 4 = 81 := rfl
    omega
  have hfill := fill_c p own (by omega) (by omega) fun t ht => by have := hfl t ht; omega
  have ef : fill p own = fillF own.length own 0 p := by simp only [fill]; rw [if_neg (by simp [hpe]), if_neg (by omega)]
  have hmade := fillF_made hg (by omega) own.length Ls 0 p (by omega) (by omega) l4 hpe hok
  rw [← e2, ← ef] at hmade
  obtain ⟨hm1, hm2⟩ := hmade
  by_cases he : (fill p own).2 = 0
  case neg =>
    have h4 : (fill p own).2 = 4 := hm1.resolve_left he
    rw [h4] at hfill
    refine AC.mk Tryz.func3 rfl rfl rfl rfl rfl (Nat.le_of_ble_eq_true rfl) ?_
    repeat' (first | ((with_reducible refine D.nil ?_); refine AX.nilL ?_) | ((with_reducible refine D.load ?_); refine L.ldb rfl rfl rfl rfl rfl rfl ?_) | ((with_reducible refine D.move ?_); refine L.mv rfl rfl rfl ?_) | ((with_reducible refine D.assign ?_); refine L.asg rfl rfl rfl ?_) | ((with_reducible refine D.bin ?_); refine L.bn rfl rfl rfl rfl rfl ?_) | ((with_reducible refine D.call ?_); first | refine L.c2 (sane18_c) rfl rfl rfl rfl ?_ | refine L.c2 (hf) rfl rfl rfl rfl ?_ | (apply L.cb2 (hn) [] 1 rfl; rfl; rfl; rfl; rfl; rfl; rfl; (focus ((repeat' (first | exact trivial)); done)); rfl; rfl; rfl; rfl) | (apply L.cb2 (hpt) [0] 0 rfl; rfl; rfl; rfl; rfl; rfl; rfl; (focus ((repeat' (first | exact trivial | refine And.intro ?_ ?_ | refine ⟨_, rfl, _, rfl, _, rfl, ?_⟩ | exact VLe.refl _)); done)); rfl; rfl; rfl; rfl) | refine L.c2 (hfill) rfl rfl rfl rfl ?_) | ((with_reducible refine D.extract ?_); refine L.ex rfl rfl rfl rfl ?_) | ((with_reducible refine D.alloc ?_); refine L.al rfl rfl rfl ?_) | ((with_reducible refine D.store ?_); refine L.st rfl rfl rfl rfl rfl rfl rfl rfl rfl ?_) | ((with_reducible refine D.not ?_); refine L.nt rfl rfl rfl ?_) | ((with_reducible refine D.aw ?_); first | refine K.sq (AW.regL ?_) | refine K.sq (K.sq ?_) | refine AW.regL ?_ | refine AW.condT rfl ?_ | refine AW.condF rfl ?_ | refine AW.skip ?_ | refine AW.ret ?_) | with_reducible refine K.tN ?_ | with_reducible refine K.tR ?_ | with_reducible refine K.r1 (by with_unfolding_all rfl) (by with_unfolding_all rfl) ?_)
    rfl
  have hfok := hm2 he
  have hfe : (fill p own).1.err = 0 := by rw [ef] at he ⊢; exact fillF_err _ own 0 p hpe he
  have hfull := ferr_full hfe
  have hnp := fokT_near hok hpe (by simp; omega)
  have hnf := fokT_near hfok hfe (by omega)
  have hback := match_back hpe he hfi hnp.2 hnf.2 (by omega)
  have hma := match_c p (fill p own).1 own.length (by omega) (by omega)
  have hsum : (own.map Tm.full).sum ≤ 2000 * own.length := by
    clear hback hma hfill hpt hm1 hm2 hfok ef e2 hol
    revert hfl
    generalize own = o
    intro hfl
    induction o with
    | nil => simp
    | cons x o ih =>
      have h1 := ih fun s hs => hfl s (by simp [hs])
      have h2 := hfl x (by simp)
      simp only [List.map_cons, List.sum_cons, List.length_cons]; omega
  have hsa := sameAllTm_r own (by omega)
  have hsf := sameFm_r _ (fill p own).1 (Nat.le_refl _) (by omega)
  have hgs : (g.map Ty.size).sum ≤ 3 * g.length := smalls_sum hg
  have hcg := ctxErr_ok hg (by omega)
  have hty := fTyped_c g (fill p own).1 (by omega) (by omega)
  rw [okT_typedFC hfok hfe hcg] at hty
  rw [he] at hfill
  rw [hback] at hma
  have hhas : ∀ k : Nat, k < own.length → _ := fun k hk => fhas_c _ p k (Nat.le_refl _) (by omega) (by omega) (by omega) hsh
  generalize hff : (fill p own).1 = f at *
  refine AC.mk Tryz.func3 rfl rfl rfl rfl rfl (Nat.le_of_ble_eq_true rfl) ?_
  repeat' (first | ((with_reducible refine D.nil ?_); refine AX.nilL ?_) | ((with_reducible refine D.load ?_); refine L.ldb rfl rfl rfl rfl rfl rfl ?_) | ((with_reducible refine D.move ?_); refine L.mv rfl rfl rfl ?_) | ((with_reducible refine D.assign ?_); refine L.asg rfl rfl rfl ?_) | ((with_reducible refine D.bin ?_); refine L.bn rfl rfl rfl rfl rfl ?_) | ((with_reducible refine D.call ?_); first | refine L.lnt rfl rfl rfl rfl ?_ | refine L.c2 (sane18_c) rfl rfl rfl rfl ?_ | refine L.c2 (hf) rfl rfl rfl rfl ?_ | (apply L.cb2 (hn) [] 1 rfl; rfl; rfl; rfl; rfl; rfl; rfl; (focus ((repeat' (first | exact trivial)); done)); rfl; rfl; rfl; rfl) | (apply L.cb2 (hpt) [0] 0 rfl; rfl; rfl; rfl; rfl; rfl; rfl; (focus ((repeat' (first | exact trivial | refine And.intro ?_ ?_ | refine ⟨_, rfl, _, rfl, _, rfl, ?_⟩ | exact VLe.refl _)); done)); rfl; rfl; rfl; rfl) | refine L.c2 (hfill) rfl rfl rfl rfl ?_ | refine L.c2 (hma) rfl rfl rfl rfl ?_) | ((with_reducible refine D.extract ?_); refine L.ex rfl rfl rfl rfl ?_) | ((with_reducible refine D.alloc ?_); refine L.al rfl rfl rfl ?_) | ((with_reducible refine D.store ?_); refine L.st rfl rfl rfl rfl rfl rfl rfl rfl rfl ?_) | ((with_reducible refine D.not ?_); refine L.nt rfl rfl rfl ?_) | ((with_reducible refine D.aw ?_); first | refine K.sq (AW.regL ?_) | refine K.sq (K.sq ?_) | refine AW.regL ?_ | refine AW.condF rfl ?_ | refine AW.skip ?_) | with_reducible refine K.tN ?_)
  refine AW.range own.length (fun m => True)
    (fun m => ([(4, .s .ty g), (5, .ptr 1 0), (6, .s .tm own), (7, .ptr 2 0), (9, .s .tm (if ∀ k : Nat, k < own.length → cntF k (p.tms 0) ≠ 0 then (own, (0 : Int)) else ([], 13)).1), (10, .i (if ∀ k : Nat, k < own.length → cntF k (p.tms 0) ≠ 0 then (own, (0 : Int)) else ([], 13)).2), (11, .bool (decide (∀ k : Nat, k < m → cntF k (p.tms 0) ≠ 0))), (47, .i own.length), (48, .i m)], ⟨3, [(0, .var D4.cells), (1, .var p.view), (2, .var f.view)]⟩))
    (by omega) (fun m => rfl) (fun m => rfl) rfl trivial ?_ ?_ ?_
  · have e0 : decide (∀ k : Nat, k < 0 → cntF k (p.tms 0) ≠ 0) = true := decide_eq_true fun k hk => by omega
    rw [e0]
    exact (Weak.mk [some 0, some 1, some 2] _ _ _ rfl rfl rfl rfl (by (repeat' (first | exact trivial | refine And.intro ?_ ?_ | refine ⟨_, rfl, _, rfl, ?_⟩ | exact VLe.refl _)); done) (by (repeat' (first | exact trivial | refine And.intro ?_ ?_ | refine ⟨_, rfl, _, rfl, _, rfl, ?_⟩ | exact VLe.refl _)); done))
  · intro m hm _
    have hc := hhas m hm
    by_cases hP : ∀ k : Nat, k < m → cntF k (p.tms 0) ≠ 0
    · have e0 : decide (∀ k : Nat, k < m + 1 → cntF k (p.tms 0) ≠ 0) = decide (timesF m p ≠ 0) := decide_eq_decide.2 ⟨fun h => h m (by omega), fun h k hk => by
        by_cases hkm : k = m
        · subst hkm; exact h
        · exact hP k (by omega)⟩
      rw [decide_eq_true hP]
      repeat' (first | ((with_reducible refine D.nil ?_); refine AX.nilL ?_) | ((with_reducible refine D.load ?_); refine L.ldb rfl rfl rfl rfl rfl rfl ?_) | ((with_reducible refine D.move ?_); refine L.mv rfl rfl rfl ?_) | ((with_reducible refine D.assign ?_); refine L.asg rfl rfl rfl ?_) | ((with_reducible refine D.call ?_); refine L.c2 (hc) rfl rfl rfl rfl ?_) | ((with_reducible refine D.pick ?_); refine L.pk rfl rfl rfl rfl ?_) | ((with_reducible refine D.aw ?_); first | refine K.sq (AW.regL ?_) | refine AW.regL ?_) | with_reducible refine K.tN ?_ | with_reducible refine K.bN ?_)
      refine ⟨rfl, trivial, ?_⟩
      simp only [e0]
      exact (Weak.mk [some 0, some 1, some 2] _ _ _ rfl rfl rfl rfl (by (repeat' (first | exact trivial | refine And.intro ?_ ?_ | refine ⟨_, rfl, _, rfl, ?_⟩ | exact VLe.refl _)); done) (by (repeat' (first | exact trivial | refine And.intro ?_ ?_ | refine ⟨_, rfl, _, rfl, _, rfl, ?_⟩ | exact VLe.refl _)); done))
    · have e0 : decide (∀ k : Nat, k < m + 1 → cntF k (p.tms 0) ≠ 0) = false := decide_eq_false fun h => hP fun k hk => h k (by omega)
      rw [decide_eq_false hP]
      repeat' (first | ((with_reducible refine D.nil ?_); refine AX.nilL ?_) | ((with_reducible refine D.load ?_); refine AX.sk rfl rfl ?_) | ((with_reducible refine D.move ?_); first | refine L.mv rfl rfl rfl ?_ | refine AX.sk rfl rfl ?_) | ((with_reducible refine D.assign ?_); refine L.asg rfl rfl rfl ?_) | ((with_reducible refine D.call ?_); refine AX.sk rfl rfl ?_) | ((with_reducible refine D.pick ?_); refine L.pk rfl rfl rfl rfl ?_) | ((with_reducible refine D.aw ?_); first | refine K.sq (AW.regL ?_) | refine AW.regL ?_) | with_reducible refine K.tN ?_ | with_reducible refine K.bN ?_)
      refine ⟨rfl, trivial, ?_⟩
      simp only [e0]
      exact (Weak.mk [some 0, some 1, some 2] _ _ _ rfl rfl rfl rfl (by (repeat' (first | exact trivial | refine And.intro ?_ ?_ | refine ⟨_, rfl, _, rfl, ?_⟩ | exact VLe.refl _)); done) (by (repeat' (first | exact trivial | refine And.intro ?_ ?_ | refine ⟨_, rfl, _, rfl, _, rfl, ?_⟩ | exact VLe.refl _)); done))
  · intro _
    by_cases hP : ∀ k : Nat, k < own.length → cntF k (p.tms 0) ≠ 0
    · rw [decide_eq_true hP]
      simp only [if_pos hP]
      repeat' (first | ((with_reducible refine D.nil ?_); refine AX.nilL ?_) | ((with_reducible refine D.load ?_); refine L.ldb rfl rfl rfl rfl rfl rfl ?_) | ((with_reducible refine D.move ?_); refine L.mv rfl rfl rfl ?_) | ((with_reducible refine D.assign ?_); refine L.asg rfl rfl rfl ?_) | ((with_reducible refine D.bin ?_); refine L.bn rfl rfl rfl rfl rfl ?_) | ((with_reducible refine D.call ?_); first | refine L.c2 (hfill) rfl rfl rfl rfl ?_ | refine L.c2 (hsa) rfl rfl rfl rfl ?_ | refine L.c2 (hsf) rfl rfl rfl rfl ?_ | refine L.c2 (hty) rfl rfl rfl rfl ?_) | ((with_reducible refine D.extract ?_); refine L.ex rfl rfl rfl rfl ?_) | ((with_reducible refine D.alloc ?_); refine L.al rfl rfl rfl ?_) | ((with_reducible refine D.store ?_); refine L.st rfl rfl rfl rfl rfl rfl rfl rfl rfl ?_) | ((with_reducible refine D.not ?_); refine L.nt rfl rfl rfl ?_) | ((with_reducible refine D.pick ?_); refine L.pk rfl rfl rfl rfl ?_) | ((with_reducible refine D.aw ?_); first | refine K.sq (AW.regL ?_) | refine K.sq (K.sq ?_) | refine AW.regL ?_ | refine AW.condF rfl ?_ | refine AW.skip ?_ | refine AW.ret ?_) | with_reducible refine K.tN ?_ | with_reducible refine K.r1 (by with_unfolding_all rfl) (by with_unfolding_all rfl) ?_)
      all_goals rfl
    · rw [decide_eq_false hP]
      simp only [if_neg hP]
      repeat' (first | ((with_reducible refine D.nil ?_); refine AX.nilL ?_) | ((with_reducible refine D.move ?_); refine L.mv rfl rfl rfl ?_) | ((with_reducible refine D.assign ?_); refine L.asg rfl rfl rfl ?_) | ((with_reducible refine D.bin ?_); refine L.bn rfl rfl rfl rfl rfl ?_) | ((with_reducible refine D.not ?_); refine L.nt rfl rfl rfl ?_) | ((with_reducible refine D.aw ?_); first | refine K.sq (AW.regL ?_) | refine K.sq (K.sq ?_) | refine AW.regL ?_ | refine AW.condT rfl ?_ | refine AW.ret ?_) | with_reducible refine K.tN ?_ | with_reducible refine K.tR ?_ | with_reducible refine K.r1 (by with_unfolding_all rfl) (by with_unfolding_all rfl) ?_)
      all_goals rfl
end Go.Ab
