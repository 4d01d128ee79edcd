/- A part of the proofs of this seat's statements: D33, D34, D35, D36, D37, D38, D39, D40, D41, D42. It has no conditions of its own. -/
import Derived.Test.YtldcgffbdlphfaaGreatDoorD1
import Derived.Test.YtldcgffbdlphfaaGreatDoorAT1
/- Plain facts: the free variables of a term, as a list without repeats, ascending. -/
namespace Go.Ab
open Go
set_option linter.all false
theorem kA_none {k : Int} : ∀ {l : List Int}, k ∉ l → keyAt k l = none
  | [], _ => rfl
  | x :: l, h => by
    simp only [List.mem_cons, not_or] at h
    have h1 : ¬ x = k := fun e => h.1 e.symm
    simp only [keyAt, if_neg h1, kA_none h.2, Option.map_none]
theorem kA_some {k : Int} : ∀ {l : List Int}, k ∈ l → ∃ i, keyAt k l = some i
  | [], h => by cases h
  | x :: l, h => by
    by_cases hx : x = k
    · exact ⟨0, by simp [keyAt, hx]⟩
    · obtain ⟨i, hi⟩ := kA_some (l := l) (by rcases List.mem_cons.1 h with h | h; exact absurd h.symm hx; exact h)
      exact ⟨i + 1, by simp [keyAt, hx, hi]⟩
theorem putKs_eq (k : Int) (ks : List Int) : putKs k ks = if k ∈ ks then ks else ks ++ [k] := by
  by_cases h : k ∈ ks
  · obtain ⟨i, hi⟩ := kA_some h
    rw [if_pos h, putKs, hi]
  · rw [if_neg h, putKs, kA_none h]
theorem mem_putKs {k x : Int} {ks : List Int} : x ∈ putKs k ks ↔ x ∈ ks ∨ x = k := by
  rw [putKs_eq]
  split
  · rename_i h
    constructor
    · exact Or.inl
    · rintro (h1 | rfl)
      · exact h1
      · exact h
  · simp
theorem nodup_putKs {k : Int} {ks : List Int} (h : ks.Nodup) : (putKs k ks).Nodup := by
  rw [putKs_eq]
  split
  · exact h
  · rename_i h1
    exact List.nodup_append.2 ⟨h, by simp, fun a ha b hb e => by simp at hb; subst hb; subst e; exact h1 ha⟩
/-- A value for each key, all alike. -/
theorem putCs_same (k : Int) (ks : List Int) (b : Bool) : putCs k ks (List.replicate ks.length b) b = List.replicate (putKs k ks).length b := by
  unfold putCs putKs
  split
  · rename_i i hi
    apply List.ext_getElem?
    intro j
    rw [List.getElem?_set]
    split
    · rename_i e; subst e
      have := (keyAt_some hi).2
      simp [List.getElem?_replicate, this]
    · rfl
  · rw [List.length_append, ← List.replicate_append_replicate]; rfl
def nub (acc l : List Int) : List Int := l.foldl (fun ks k => putKs k ks) acc
theorem nub_app (acc l l' : List Int) : nub acc (l ++ l') = nub (nub acc l) l' := List.foldl_append
theorem nub_nil (acc : List Int) : nub acc [] = acc := rfl
theorem nub_one (acc : List Int) (k : Int) : nub acc [k] = putKs k acc := rfl
theorem mem_nub {x : Int} : ∀ {l acc : List Int}, x ∈ nub acc l ↔ x ∈ acc ∨ x ∈ l
  | [], acc => by simp [nub]
  | k :: l, acc => by
    show x ∈ nub (putKs k acc) l ↔ _
    rw [mem_nub, mem_putKs, List.mem_cons, or_assoc]
theorem nodup_nub : ∀ {l acc : List Int}, acc.Nodup → (nub acc l).Nodup
  | [], acc, h => h
  | k :: l, acc, h => nodup_nub (l := l) (nodup_putKs h)
theorem nub_len : ∀ (l acc : List Int), (nub acc l).length ≤ acc.length + l.length
  | [], acc => by simp [nub]
  | k :: l, acc => by
    have h1 := nub_len l (putKs k acc)
    have h2 : (putKs k acc).length ≤ acc.length + 1 := by rw [putKs_eq]; split <;> simp
    show (nub (putKs k acc) l).length ≤ _
    rw [List.length_cons]; omega
/-- The free variables, as they come. -/
def fre (l : List (Int × Int)) : List Int := l.filterMap fun p => if p.2 ≤ p.1 then some (p.1 - p.2) else none
theorem fre_app (l l' : List (Int × Int)) : fre (l ++ l') = fre l ++ fre l' := List.filterMap_append
theorem fre_nil : fre [] = [] := rfl
theorem fre_one (i b : Int) : fre [(i, b)] = if b ≤ i then [i - b] else [] := by
  by_cases h : b ≤ i
  · simp [fre, h]
  · simp [fre, h]
theorem fre_len (l : List (Int × Int)) : (fre l).length ≤ l.length := List.length_filterMap_le _ _
theorem mem_fre {x : Int} {l : List (Int × Int)} : x ∈ fre l ↔ 0 ≤ x ∧ ∃ p ∈ l, p.1 - p.2 = x := by
  simp only [fre, List.mem_filterMap]
  constructor
  · rintro ⟨p, hp, h⟩
    split at h
    · cases h; exact ⟨by omega, p, hp, rfl⟩
    · cases h
  · rintro ⟨h0, p, hp, h⟩
    exact ⟨p, hp, by rw [if_pos (by omega), h]⟩
def useK (t : Tm) : List Int := nub [] (fre (t.vars 0))
/-- The free variables of a term, ascending. -/
def usesI (t : Tm) : List Int := sortI (useK t)
/- Lifting. -/
def shI (fr by_ v : Int) : Int := if v ≥ fr then v + by_ else v
/- Putting a term in. -/
end Go.Ab
/- Plain facts: lifting from any variable on, lowering; the sizes of terms with another one put in. -/
namespace Go.Ab
open Go
set_option linter.all false
theorem lift_idx {t : Tm} (hs : t.shape = true) {fr by_ C : Int} (hb : 0 ≤ by_) (hC : ∀ p ∈ t.vars 0, p.1 ≤ C) : ∀ p ∈ (t.re (liftG fr by_) 0).vars 0, p.1 ≤ C + by_ := fun p hp => by
  rw [lift_vars _ _ _ _ hs] at hp
  obtain ⟨q, hq, rfl⟩ := List.mem_map.1 hp
  have := hC q hq
  simp only
  split <;> omega
theorem near_idx {t : Tm} (hC : ∀ p ∈ t.vars 0, p.1 ≤ 1000000) : t.near = true := List.all_eq_true.2 fun p hp => by
  have := hC p hp
  simp only [decide_eq_true_eq]; omega
theorem lower_lift {t : Tm} (hs : t.shape = true) (a : Int) (s : Tm) : (t.re (liftG a 1) 0).re (putG a s) 0 = t := by
  rw [re_re]
  refine re_id t 0 hs fun p hp => ?_
  simp only [liftG_eq, re_vT, putG_eq]
  by_cases h : p.1 - p.2 ≥ a
  · rw [if_pos h, if_neg (by omega), if_pos (by omega)]; congr 1; omega
  · rw [if_neg h, if_neg (by omega), if_neg (by omega)]
theorem cnt_lifted {t : Tm} (hs : t.shape = true) (a : Int) : cnt a ((t.re (liftG a 1) 0).vars 0) = 0 := by
  rw [lift_vars _ _ _ _ hs]
  have : ∀ l : List (Int × Int), cnt a (l.map fun p => (if p.1 - p.2 ≥ a then p.1 + 1 else p.1, p.2)) = 0 := by
    intro l
    induction l with
    | nil => rfl
    | cons p l ih =>
      rw [List.map_cons, show ∀ (x : Int × Int) l, x :: l = [x] ++ l from fun _ _ => rfl, cnt_append, ih, cnt_one, if_neg]
      simp only
      split <;> omega
  exact this _
/-- Lowering. -/
def lowerErr (t : Tm) (a : Int) : Int := if t.err ≠ 0 then t.err else if ¬ (0 ≤ a ∧ a ≤ 4096) then 1 else if 0 < cnt a (t.vars 0) then 6 else 0
end Go.Ab
/- Plain facts: the free variables of a term with another one put in, counted by a set. -/
namespace Go.Ab
open Go
set_option linter.all false
/-- What stands for the variables behind the first. -/
def prevs (l : List Int) : List Int := (l.filter fun v => decide (v ≠ 0)).map (· - 1)
def wantI (a b : List Int) : List Int := nub (nub [] (prevs a)) (if 0 ∈ a then b else [])
end Go.Ab
/- Plain facts: a term with another one put in, checked; how great its variables are. -/
namespace Go.Ab
open Go
set_option linter.all false
/- What the law's loops have found. -/
def hasM (a : List Int) (m : Nat) : Bool := decide (0 ∈ a.take m)
def wM (a : List Int) (m : Nat) : List Int := nub [] (prevs (a.take m))
def wN (a b : List Int) (h : Bool) (m : Nat) : List Int := nub (wM a a.length) (if h = true then b.take m else [])
end Go.Ab
/- Plain facts: the free variables of a formula. -/
namespace Go.Ab
open Go
set_option linter.all false
def useKF (f : Fm) : List Int := nub [] (fre (varsL (f.tms 0)))
/-- The free variables of a formula, ascending. -/
def usesFI (f : Fm) : List Int := sortI (useKF f)
theorem useKF_nodup (f : Fm) : (useKF f).Nodup := nodup_nub List.nodup_nil
theorem varsL_nil : varsL [] = [] := rfl
theorem varsL_one (t : Tm) (b : Int) : varsL [(t, b)] = t.vars b := by simp [varsL]
theorem mem_useKF {f : Fm} {x : Int} : x ∈ useKF f ↔ 0 ≤ x ∧ ∃ q ∈ varsL (f.tms 0), q.1 - q.2 = x := by rw [useKF, mem_nub, mem_fre]; simp
theorem varsL_len (l : List (Tm × Int)) : (varsL l).length ≤ (l.map fun q => q.1.size).sum := by
  induction l with
  | nil => simp [varsL]
  | cons q l ih =>
    have := q.1.vars_len q.2
    simp only [varsL, List.flatMap_cons, List.length_append, List.map_cons, List.sum_cons] at ih ⊢
    omega
theorem useKF_len (f : Fm) : (useKF f).length ≤ ((f.tms 0).map fun q => q.1.size).sum := by
  have h1 := nub_len (fre (varsL (f.tms 0))) []
  have h2 := fre_len (varsL (f.tms 0))
  have h3 := varsL_len (f.tms 0)
  simp only [useKF, List.length_nil] at *; omega
theorem useKF_size (f : Fm) : (useKF f).length ≤ f.size := by
  have h1 := useKF_len f
  have h2 := tms_size f 0
  omega
end Go.Ab
/- Plain facts: formulas lifted and lowered. -/
namespace Go.Ab
open Go
set_option linter.all false
def Fm.lft (f : Fm) (fr by_ : Int) : Fm := f.re (fun b t => t.re (liftG (fr + b) by_) 0) 0
def liftFErr (f : Fm) (fr by_ : Int) : Int := if f.err ≠ 0 then f.err else if ¬ (0 ≤ fr ∧ fr ≤ 4096) ∨ ¬ (0 ≤ by_ ∧ by_ ≤ 4096) ∨ f.near = false then 1 else 0
def lowerFErr (f : Fm) (a : Int) : Int := if f.err ≠ 0 then f.err else if ¬ (0 ≤ a ∧ a ≤ 4096) then 1 else if 0 < cntF a (f.tms 0) then 6 else 0
end Go.Ab
/- Plain facts: negations and disjunctions. -/
namespace Go.Ab
open Go
set_option linter.all false
def falseF : Fm := eqF (.mk 4 0 (.mk 0 []) []) (.mk 5 0 (.mk 0 []) [.mk 4 0 (.mk 0 []) []])
def notF (f : Fm) : Fm := .mk 3 (.mk 0 []) [] [f, falseF]
def zeroF : Fm := eqF (.mk 1 0 (.mk 0 []) []) (.mk 4 0 (.mk 0 []) [])
def orF (a b : Fm) : Fm := .mk 5 natT [] [.mk 2 (.mk 0 []) [] [.mk 3 (.mk 0 []) [] [zeroF, a], .mk 3 (.mk 0 []) [] [.mk 3 (.mk 0 []) [] [zeroF, falseF], b]]]
end Go.Ab
/- Plain facts: the kinds of formulas of the right shape. -/
namespace Go.Ab
open Go
set_option linter.all false
theorem fshape_kinds {f : Fm} (h : f.shape = true) :
    (f.kind = 1 ∧ f.args = []) ∨ ((f.kind = 2 ∨ f.kind = 3) ∧ f.terms = []) ∨ ((f.kind = 4 ∨ f.kind = 5 ∨ f.kind = 6 ∨ f.kind = 7) ∧ f.terms = [] ∧ f.ty.err = 0) := by
  rw [Fm.shape_eq, Bool.and_eq_true, Bool.and_eq_true] at h
  have h1 := h.1.1
  unfold Fm.head at h1
  by_cases h2 : f.kind = 1
  · rw [if_pos h2] at h1
    simp only [Bool.and_eq_true, beq_iff_eq, List.length_eq_zero_iff] at h1
    exact .inl ⟨h2, h1.2⟩
  rw [if_neg h2] at h1
  by_cases h3 : f.kind = 2 ∨ f.kind = 3
  · rw [if_pos h3] at h1
    simp only [Bool.and_eq_true, beq_iff_eq, List.length_eq_zero_iff] at h1
    exact .inr (.inl ⟨h3, h1.1.2⟩)
  rw [if_neg h3] at h1
  by_cases h4 : f.kind = 4 ∨ f.kind = 5 ∨ f.kind = 6 ∨ f.kind = 7
  · rw [if_pos h4] at h1
    simp only [Bool.and_eq_true, beq_iff_eq, List.length_eq_zero_iff] at h1
    refine .inr (.inr ⟨h4, h1.1.2, (Ty.err_iff f.ty).2 ?_⟩)
    have := h1.1.1
    simp only [Ty.ok, Bool.and_eq_true, decide_eq_true_eq] at this
    exact this
  rw [if_neg h4] at h1
  cases h1
end Go.Ab
/- Plain facts: a formula lifted, and lowered again. -/
namespace Go.Ab
open Go
set_option linter.all false
theorem flower_lift {f : Fm} (hs : ∀ p ∈ f.tms 0, p.1.shape = true) (a : Int) (s : Tm) : (f.lft a 1).put a s = f := by
  rw [Fm.put, Fm.lft, Fm.re_re]
  refine Fm.re_id f 0 fun p hp => ?_
  exact lower_lift (hs p hp) (a + p.2) s
theorem cntF_lifted {f : Fm} (hs : ∀ p ∈ f.tms 0, p.1.shape = true) (a : Int) : cntF a ((f.lft a 1).tms 0) = 0 := by
  rw [Fm.lft, tms_re]
  have : ∀ l : List (Tm × Int), (∀ p ∈ l, p.1.shape = true) → cntF a (l.map fun p => (p.1.re (liftG (a + p.2) 1) 0, p.2)) = 0 := by
    intro l
    induction l with
    | nil => intro _; rfl
    | cons p l ih =>
      intro h
      simp only [List.map_cons, cntF]
      rw [show cntF a (l.map fun p => (p.1.re (liftG (a + p.2) 1) 0, p.2)) = 0 from ih fun q hq => h q (by simp [hq])]
      rw [cnt_lifted (h p (by simp))]
  exact this _ hs
theorem map_same {α : Type} {f g : α → Nat} {l : List α} (h : ∀ x ∈ l, f x = g x) : (l.map f).sum = (l.map g).sum := by rw [List.map_congr_left h]
theorem re_keeps {G : Int → Tm → Tm} (hG : ∀ b t, t.shape = true → (G b t).shape = true ∧ (G b t).size = t.size ∧ (G b t).full = t.full) (f : Fm) : ∀ b, f.shape = true → (f.re G b).shape = true ∧ (f.re G b).size = f.size ∧ (f.re G b).full = f.full := by
  induction f using Fm.ind with
  | h f ih =>
    intro b hf
    have h0 := hf
    rw [Fm.shape_eq, Bool.and_eq_true, Bool.and_eq_true] at h0
    obtain ⟨⟨h1, h2⟩, h3⟩ := h0
    rw [Fm.re_eq]
    refine ⟨?_, ?_, ?_⟩
    · rw [Fm.shape_eq, Bool.and_eq_true, Bool.and_eq_true]
      refine ⟨⟨?_, ?_⟩, ?_⟩
      · simp only [Fm.head, Fm.kind_mk, Fm.ty_mk, Fm.terms_mk, Fm.args_mk, List.length_map] at h1 ⊢
        exact h1
      · rw [Fm.terms_mk, List.all_eq_true]
        intro y hy
        obtain ⟨x, hx, rfl⟩ := List.mem_map.1 hy
        exact (hG b x (List.all_eq_true.1 h2 x hx)).1
      · rw [Fm.args_mk, List.all_eq_true]
        intro y hy
        obtain ⟨x, hx, rfl⟩ := List.mem_map.1 hy
        exact (ih x hx _ (List.all_eq_true.1 h3 x hx)).1
    · rw [Fm.size_eq, f.size_eq]
      simp only [Fm.terms_mk, Fm.args_mk, List.map_map]
      rw [map_same (f := Tm.size ∘ G b) (g := Tm.size) fun x hx => (hG b x (List.all_eq_true.1 h2 x hx)).2.1, map_same (f := Fm.size ∘ Fm.re G (upF f.kind b)) (g := Fm.size) fun x hx => (ih x hx _ (List.all_eq_true.1 h3 x hx)).2.1]
    · rw [Fm.full_eq, f.full_eq]
      simp only [Fm.terms_mk, Fm.args_mk, Fm.ty_mk, List.map_map]
      rw [map_same (f := Tm.full ∘ G b) (g := Tm.full) fun x hx => (hG b x (List.all_eq_true.1 h2 x hx)).2.2, map_same (f := Fm.full ∘ Fm.re G (upF f.kind b)) (g := Fm.full) fun x hx => (ih x hx _ (List.all_eq_true.1 h3 x hx)).2.2]
theorem lft_keeps {f : Fm} (hf : f.shape = true) {fr by_ : Int} (hb : 0 ≤ by_) : (f.lft fr by_).shape = true ∧ (f.lft fr by_).size = f.size ∧ (f.lft fr by_).full = f.full :=
  re_keeps (fun b t ht => ⟨lift_shape 0 ht hb, lift_size _ _ t 0 ht, lift_full _ _ t 0 ht⟩) f 0 hf
end Go.Ab
/- Plain facts: made formulas lifted, lowered, put into, negated and joined. -/
namespace Go.Ab
open Go
set_option linter.all false
theorem fokT_lft (g m : List Ty) (fr : Int) (f : Fm) : ∀ (h : List Ty) (b : Int), (h.length : Int) = fr + b → f.shape = true → f.okT (g ++ h) →
    (f.re (fun b t => t.re (liftG (fr + b) m.length) 0) b).okT (g ++ m ++ h) := by
  induction f using Fm.ind with
  | h f ih =>
    intro h b hb hf hok
    rw [Fm.okT_iff] at hok
    rw [Fm.re_eq, Fm.okT_iff]
    simp only [Fm.terms_mk, Fm.args_mk]
    refine ⟨fun y hy => ?_, fun y hy => ?_⟩
    · obtain ⟨x, hx, rfl⟩ := List.mem_map.1 hy
      rw [lift_inf x g m h (fr + b) 0 (fshape_terms hf hx) (by omega)]
      exact hok.1 x hx
    · obtain ⟨x, hx, rfl⟩ := List.mem_map.1 hy
      have h1 := hok.2 x hx
      by_cases hq : quantK f.kind = true
      · rw [ctxF_q hq] at h1
        rw [show ∀ ts fs, ctxF (g ++ m ++ h) (Fm.mk f.kind f.ty ts fs) = g ++ m ++ h ++ [f.ty] from fun ts fs => ctxF_q (f := Fm.mk f.kind f.ty ts fs) hq]
        have e : upF f.kind b = b + 1 := if_pos hq
        rw [e, List.append_assoc (g ++ m)]
        rw [List.append_assoc] at h1
        exact ih x hx (h ++ [f.ty]) (b + 1) (by simp; omega) (fshape_args hf hx) h1
      · rw [ctxF_n hq] at h1
        rw [show ∀ ts fs, ctxF (g ++ m ++ h) (Fm.mk f.kind f.ty ts fs) = g ++ m ++ h from fun ts fs => ctxF_n (f := Fm.mk f.kind f.ty ts fs) hq]
        have e : upF f.kind b = b := if_neg hq
        rw [e]
        exact ih x hx h b hb (fshape_args hf hx) h1
theorem lft_okT {f : Fm} {g : List Ty} (s : Ty) (hf : f.shape = true) (h : f.okT g) : (f.lft 0 1).okT (g ++ [s]) := by
  have := fokT_lft g [s] 0 f [] 0 rfl hf (by simpa using h)
  simpa [Fm.lft] using this
theorem lft_idx {f : Fm} (hs : f.shape = true) {fr by_ C : Int} (hb : 0 ≤ by_) (hC : ∀ p ∈ f.tms 0, ∀ q ∈ p.1.vars 0, q.1 ≤ C) : ∀ p ∈ (f.lft fr by_).tms 0, ∀ q ∈ p.1.vars 0, 0 ≤ q.1 ∧ q.1 ≤ C + by_ := by
  intro p hp q hq
  rw [Fm.lft, tms_re] at hp
  obtain ⟨r, hr, rfl⟩ := List.mem_map.1 hp
  have h1 := tms_shape f hs 0 r hr
  exact ⟨Tm.vars_nonneg _ (lift_shape 0 h1 hb) 0 q hq, lift_idx h1 hb (hC r hr) q hq⟩
theorem fokT_idx {f : Fm} {g : List Ty} (h : f.okT g) (he : f.err = 0) (hg : g.length ≤ 100) : ∀ p ∈ f.tms 0, ∀ q ∈ p.1.vars 0, q.1 ≤ 4500 := fun p hp q hq => by
  have h1 := (Fm.err_iff f).1 he
  have := fokT_vars h h1.1 p hp q hq
  omega
theorem idx_near {f : Fm} {C : Int} (hC : C ≤ 1000000) (h : ∀ p ∈ f.tms 0, ∀ q ∈ p.1.vars 0, 0 ≤ q.1 ∧ q.1 ≤ C) : f.near = true :=
  List.all_eq_true.2 fun p hp => near_idx fun q hq => by have := h p hp q hq; omega
theorem lft_err {f : Fm} (he : f.err = 0) {fr by_ : Int} (hb : 0 ≤ by_) : (f.lft fr by_).err = 0 := by
  have h1 := (Fm.err_iff f).1 he
  obtain ⟨h2, h3, _⟩ := lft_keeps h1.1 (fr := fr) hb
  exact (Fm.err_iff _).2 ⟨h2, by rw [h3]; exact h1.2⟩
theorem liftFErr_no {f : Fm} {g : List Ty} (h : f.okT g) (he : f.err = 0) (hg : g.length ≤ 1000) : liftFErr f 0 1 = 0 := by
  rw [liftFErr, if_neg (fun hc => hc he), if_neg]
  rintro (hc | hc | hc)
  · exact hc ⟨by omega, by omega⟩
  · exact hc ⟨by omega, by omega⟩
  · rw [(fokT_near h he hg).1] at hc; cases hc
theorem lowerFErr_no {f : Fm} (he : f.err = 0) : lowerFErr (f.lft 0 1) 0 = 0 := by
  rw [lowerFErr, if_neg (fun hc => hc (lft_err he (by omega))), if_neg (fun hc => hc ⟨by omega, by omega⟩), if_neg]
  rw [cntF_lifted fun p hp => tms_shape f ((Fm.err_iff f).1 he).1 0 p hp]; omega
theorem putFErr_no {f : Fm} {g : List Ty} (h : f.okT g) (he : f.err = 0) (hg : g.length ≤ 100) {s : Tm} (hs : s.err = 0) (hn : s.near = true) : putFErr (f.lft 0 1) 0 s = 0 := by
  have h1 := (Fm.err_iff f).1 he
  have e := lft_err he (fr := 0) (by_ := 1) (by omega)
  have n : (f.lft 0 1).near = true := idx_near (C := 4501) (by omega) fun p hp q hq => by
    have := lft_idx h1.1 (by_ := 1) (by omega) (fokT_idx h he hg) p hp q hq; omega
  have c := cntF_lifted (fun p hp => tms_shape f h1.1 0 p hp) 0
  have h2 := ((Fm.err_iff _).1 e).2
  simp only [putFErr, e, hs, n, hn, c]
  simp
  omega
theorem falseF_shape : falseF.shape = true := by decide
theorem falseF_size : falseF.size = 4 := by decide
theorem falseF_okT (g : List Ty) : falseF.okT g := by
  rw [Fm.okT_iff]
  refine ⟨fun t ht => ?_, fun x hx => by simp [falseF, eqF] at hx⟩
  simp only [falseF, eqF, Fm.terms_mk, List.mem_cons, List.not_mem_nil, or_false] at ht
  rcases ht with rfl | rfl <;> rfl
theorem zeroF_shape : zeroF.shape = true := by decide
theorem zeroF_size : zeroF.size = 3 := by decide
theorem zeroF_okT (g : List Ty) : zeroF.okT (g ++ [natT]) := by
  rw [Fm.okT_iff]
  refine ⟨fun t ht => ?_, fun x hx => by simp [zeroF, eqF] at hx⟩
  simp only [zeroF, eqF, Fm.terms_mk, List.mem_cons, List.not_mem_nil, or_false] at ht
  rcases ht with rfl | rfl
  · have := inf_var' (g ++ [natT]) 0 (by omega)
    rw [show vT 0 = .mk 1 0 (.mk 0 []) [] from rfl] at this
    rw [this, if_neg (by simp)]
    rw [show (0 : Int).toNat = 0 from rfl, look_last]
  · rfl
theorem notF_ok {f : Fm} (h : f.shape = true) : (notF f).shape = true ∧ (notF f).size = f.size + 5 := by
  constructor
  · rw [Fm.shape_eq]; simp [notF, Fm.head, h, falseF_shape, Ty.isNo]
  · rw [Fm.size_eq]; simp [notF, falseF_size]; omega
theorem notF_okT {f : Fm} {g : List Ty} (h : f.okT g) : (notF f).okT g := fokT_two (.inr rfl) h (falseF_okT g)
theorem orF_ok {a b : Fm} (h : a.shape = true) (h' : b.shape = true) : (orF a b).shape = true ∧ (orF a b).size = a.size + b.size + 15 := by
  constructor
  · rw [Fm.shape_eq]; simp [orF, Fm.head, Fm.shape_eq (.mk 2 _ _ _), Fm.shape_eq (.mk 3 _ _ _), h, h', falseF_shape, zeroF_shape, Ty.isNo]; decide
  · simp only [orF, Fm.size_eq (.mk 5 _ _ _), Fm.size_eq (.mk 2 _ _ _), Fm.size_eq (.mk 3 _ _ _), Fm.terms_mk, Fm.args_mk, List.map_cons, List.map_nil, List.sum_cons, List.sum_nil, falseF_size, zeroF_size]; omega
theorem orF_okT {a b : Fm} {g : List Ty} (h : a.okT (g ++ [natT])) (h' : b.okT (g ++ [natT])) : (orF a b).okT g :=
  fokT_qu ⟨by omega, by omega⟩ (fokT_two (.inl rfl) (fokT_two (.inr rfl) (zeroF_okT g) h) (fokT_two (.inr rfl) (fokT_two (.inr rfl) (zeroF_okT g) (falseF_okT _)) h'))
theorem fm2_err {f : Fm} (h : FmOk 2 f) : f.err = 0 := (Fm.err_iff f).2 ⟨h.1, by have := h.2.1; omega⟩
/- The example of the chapter. -/
def exF : Fm := .mk 4 natT [] [.mk 1 (.mk 0 []) [vT 0, vT 1] []]
theorem exF_uses : usesFI exF = [0] := by
  have : useKF exF = [0] := by decide
  rw [usesFI, this]; exact List.mergeSort_singleton 0
theorem exF_err : exF.err = 0 := by decide
theorem exF_idx : ∀ p ∈ varsL (exF.tms 0), (0 ≤ p.1 ∧ p.1 < 9223372036854775808) ∧ 0 ≤ p.2 := by decide
end Go.Ab
