/- A part of the proofs of this seat's statements: D33, D34, D35, D36. It has no conditions of its own. -/
import Derived.Test.YtocnpbcbengkdaaDoorD1
import Derived.Test.YtocnpbcbengkdaaDoorAT1
/- Plain facts: the free variables of a term, as a list without repeats, ascending. -/
namespace Go.Ab
open Go
set_option linter.all false
theorem kA_none {k : Int} : ∀ {l : List Int}, k ∉ l → keyAt k l = none
  | [], _ => rfl
  | x :: l, h => by
    simp only [List.mem_cons, not_or] at h
    have h1 : ¬ x = k := fun e => h.1 e.symm
    simp only [keyAt, if_neg h1, kA_none h.2, Option.map_none]
theorem kA_some {k : Int} : ∀ {l : List Int}, k ∈ l → ∃ i, keyAt k l = some i
  | [], h => by cases h
  | x :: l, h => by
    by_cases hx : x = k
    · exact ⟨0, by simp [keyAt, hx]⟩
    · obtain ⟨i, hi⟩ := kA_some (l := l) (by rcases List.mem_cons.1 h with h | h; exact absurd h.symm hx; exact h)
      exact ⟨i + 1, by simp [keyAt, hx, hi]⟩
theorem putKs_eq (k : Int) (ks : List Int) : putKs k ks = if k ∈ ks then ks else ks ++ [k] := by
  by_cases h : k ∈ ks
  · obtain ⟨i, hi⟩ := kA_some h
    rw [if_pos h, putKs, hi]
  · rw [if_neg h, putKs, kA_none h]
theorem mem_putKs {k x : Int} {ks : List Int} : x ∈ putKs k ks ↔ x ∈ ks ∨ x = k := by
  rw [putKs_eq]
  split
  · rename_i h
    constructor
    · exact Or.inl
    · rintro (h1 | rfl)
      · exact h1
      · exact h
  · simp
theorem nodup_putKs {k : Int} {ks : List Int} (h : ks.Nodup) : (putKs k ks).Nodup := by
  rw [putKs_eq]
  split
  · exact h
  · rename_i h1
    exact List.nodup_append.2 ⟨h, by simp, fun a ha b hb e => by simp at hb; subst hb; subst e; exact h1 ha⟩
/-- A value for each key, all alike. -/
theorem putCs_same (k : Int) (ks : List Int) (b : Bool) : putCs k ks (List.replicate ks.length b) b = List.replicate (putKs k ks).length b := by
  unfold putCs putKs
  split
  · rename_i i hi
    apply List.ext_getElem?
    intro j
    rw [List.getElem?_set]
    split
    · rename_i e; subst e
      have := (keyAt_some hi).2
      simp [List.getElem?_replicate, this]
    · rfl
  · rw [List.length_append, ← List.replicate_append_replicate]; rfl
def nub (acc l : List Int) : List Int := l.foldl (fun ks k => putKs k ks) acc
theorem nub_app (acc l l' : List Int) : nub acc (l ++ l') = nub (nub acc l) l' := List.foldl_append
theorem nub_nil (acc : List Int) : nub acc [] = acc := rfl
theorem nub_one (acc : List Int) (k : Int) : nub acc [k] = putKs k acc := rfl
theorem mem_nub {x : Int} : ∀ {l acc : List Int}, x ∈ nub acc l ↔ x ∈ acc ∨ x ∈ l
  | [], acc => by simp [nub]
  | k :: l, acc => by
    show x ∈ nub (putKs k acc) l ↔ _
    rw [mem_nub, mem_putKs, List.mem_cons, or_assoc]
theorem nodup_nub : ∀ {l acc : List Int}, acc.Nodup → (nub acc l).Nodup
  | [], acc, h => h
  | k :: l, acc, h => nodup_nub (l := l) (nodup_putKs h)
theorem nub_len : ∀ (l acc : List Int), (nub acc l).length ≤ acc.length + l.length
  | [], acc => by simp [nub]
  | k :: l, acc => by
    have h1 := nub_len l (putKs k acc)
    have h2 : (putKs k acc).length ≤ acc.length + 1 := by rw [putKs_eq]; split <;> simp
    show (nub (putKs k acc) l).length ≤ _
    rw [List.length_cons]; omega
/-- The free variables, as they come. -/
def fre (l : List (Int × Int)) : List Int := l.filterMap fun p => if p.2 ≤ p.1 then some (p.1 - p.2) else none
theorem fre_app (l l' : List (Int × Int)) : fre (l ++ l') = fre l ++ fre l' := List.filterMap_append
theorem fre_nil : fre [] = [] := rfl
theorem fre_one (i b : Int) : fre [(i, b)] = if b ≤ i then [i - b] else [] := by
  by_cases h : b ≤ i
  · simp [fre, h]
  · simp [fre, h]
theorem fre_len (l : List (Int × Int)) : (fre l).length ≤ l.length := List.length_filterMap_le _ _
theorem mem_fre {x : Int} {l : List (Int × Int)} : x ∈ fre l ↔ 0 ≤ x ∧ ∃ p ∈ l, p.1 - p.2 = x := by
  simp only [fre, List.mem_filterMap]
  constructor
  · rintro ⟨p, hp, h⟩
    split at h
    · cases h; exact ⟨by omega, p, hp, rfl⟩
    · cases h
  · rintro ⟨h0, p, hp, h⟩
    exact ⟨p, hp, by rw [if_pos (by omega), h]⟩
theorem mem_cnt {x : Int} : ∀ {l : List (Int × Int)}, (∃ p ∈ l, p.1 - p.2 = x) ↔ cnt x l ≠ 0
  | [] => by simp [cnt]
  | p :: l => by
    have ih := mem_cnt (x := x) (l := l)
    rw [show p :: l = [p] ++ l from rfl, cnt_append, cnt_one]
    constructor
    · rintro ⟨q, hq, h⟩
      rcases List.mem_append.1 hq with h1 | h1
      · simp at h1; subst h1; rw [if_pos h]; omega
      · have := ih.1 ⟨q, h1, h⟩; omega
    · intro h
      by_cases h1 : p.1 - p.2 = x
      · exact ⟨p, by simp, h1⟩
      · rw [if_neg h1] at h
        obtain ⟨q, hq, h2⟩ := ih.2 (by omega)
        exact ⟨q, by simp [hq], h2⟩
def useK (t : Tm) : List Int := nub [] (fre (t.vars 0))
/-- The free variables of a term, ascending. -/
def usesI (t : Tm) : List Int := sortI (useK t)
theorem useK_nodup (t : Tm) : (useK t).Nodup := nodup_nub List.nodup_nil
theorem mem_useK {t : Tm} {x : Int} : x ∈ useK t ↔ 0 ≤ x ∧ cnt x (t.vars 0) ≠ 0 := by rw [useK, mem_nub, mem_fre, mem_cnt]; simp
theorem useK_len (t : Tm) : (useK t).length ≤ t.size := by
  have h1 := nub_len (fre (t.vars 0)) []
  have h2 := fre_len (t.vars 0)
  have h3 := t.vars_len 0
  simp only [useK, List.length_nil] at *; omega
theorem sortI_perm (l : List Int) : (sortI l).Perm l := List.mergeSort_perm l _
theorem sortI_sorted (l : List Int) : (sortI l).Pairwise (· ≤ ·) := by
  have h := List.pairwise_mergeSort (le := fun x y : Int => decide (x ≤ y)) (fun a b c h1 h2 => by simp only [decide_eq_true_eq] at *; omega) (fun a b => by simp only [Bool.or_eq_true, decide_eq_true_eq]; omega) l
  exact h.imp fun h => by simpa using h
theorem sorted_eq {l l' : List Int} (hp : l.Perm l') (h : l.Pairwise (· ≤ ·)) (h' : l'.Pairwise (· ≤ ·)) : l = l' :=
  hp.eq_of_pairwise (le := (· ≤ ·)) (fun a b _ _ h1 h2 => by omega) h h'
theorem sortI_of_perm {l l' : List Int} (hp : l.Perm l') : sortI l = sortI l' :=
  sorted_eq ((sortI_perm l).trans (hp.trans (sortI_perm l').symm)) (sortI_sorted l) (sortI_sorted l')
theorem sortI_map {f : Int → Int} (hf : ∀ a b : Int, a ≤ b → f a ≤ f b) (l : List Int) : sortI (l.map f) = (sortI l).map f :=
  sorted_eq ((sortI_perm _).trans ((sortI_perm l).map f).symm) (sortI_sorted _) (List.pairwise_map.2 ((sortI_sorted l).imp fun h => hf _ _ h))
theorem mem_usesI {t : Tm} {x : Int} : x ∈ usesI t ↔ 0 ≤ x ∧ cnt x (t.vars 0) ≠ 0 := by rw [usesI, (sortI_perm _).mem_iff, mem_useK]
theorem usesI_len (t : Tm) : (usesI t).length ≤ t.size := by rw [usesI, (sortI_perm _).length_eq]; exact useK_len t
/- Lifting. -/
def shI (fr by_ v : Int) : Int := if v ≥ fr then v + by_ else v
theorem uses_lift {t : Tm} (hs : t.shape = true) {fr by_ : Int} (h0 : 0 ≤ fr) (hb : 0 ≤ by_) : usesI (t.re (liftG fr by_) 0) = (usesI t).map (shI fr by_) := by
  have hmono : ∀ a b : Int, a ≤ b → shI fr by_ a ≤ shI fr by_ b := fun a b h => by unfold shI; split <;> split <;> omega
  have hinj : ∀ a b : Int, shI fr by_ a = shI fr by_ b → a = b := fun a b h => by unfold shI at h; split at h <;> split at h <;> omega
  rw [usesI, usesI, ← sortI_map hmono]
  refine sortI_of_perm ((List.perm_ext_iff_of_nodup (useK_nodup _) ?_).2 fun x => ?_)
  · exact List.pairwise_map.2 ((useK_nodup t).imp fun h e => h (hinj _ _ e))
  · rw [mem_useK, List.mem_map, ← mem_cnt, lift_vars _ _ _ _ hs]
    constructor
    · rintro ⟨h1, p, hp, h2⟩
      obtain ⟨q, hq, rfl⟩ := List.mem_map.1 hp
      simp only at h2
      refine ⟨q.1 - q.2, mem_useK.2 ⟨?_, mem_cnt.1 ⟨q, hq, rfl⟩⟩, ?_⟩
      · split at h2 <;> omega
      · unfold shI; split <;> rename_i h3 <;> split at h2 <;> omega
    · rintro ⟨y, hy, rfl⟩
      obtain ⟨h1, h2⟩ := mem_useK.1 hy
      obtain ⟨q, hq, h3⟩ := mem_cnt.2 h2
      refine ⟨by unfold shI; split <;> omega, _, List.mem_map.2 ⟨q, hq, rfl⟩, ?_⟩
      simp only [shI]
      split <;> split <;> omega
/- Putting a term in. -/
end Go.Ab
/- Plain facts: lifting from any variable on, lowering; the sizes of terms with another one put in. -/
namespace Go.Ab
open Go
set_option linter.all false
theorem lift_err {t : Tm} (h : t.err = 0) {fr by_ : Int} (hb : 0 ≤ by_) : (t.re (liftG fr by_) 0).err = 0 := by
  obtain ⟨hs, hz⟩ := t.err_iff.1 h
  exact (Tm.err_iff _).2 ⟨lift_shape 0 hs hb, by rw [lift_size fr by_ t 0 hs]; exact hz⟩
theorem lift_idx {t : Tm} (hs : t.shape = true) {fr by_ C : Int} (hb : 0 ≤ by_) (hC : ∀ p ∈ t.vars 0, p.1 ≤ C) : ∀ p ∈ (t.re (liftG fr by_) 0).vars 0, p.1 ≤ C + by_ := fun p hp => by
  rw [lift_vars _ _ _ _ hs] at hp
  obtain ⟨q, hq, rfl⟩ := List.mem_map.1 hp
  have := hC q hq
  simp only
  split <;> omega
theorem near_idx {t : Tm} (hC : ∀ p ∈ t.vars 0, p.1 ≤ 1000000) : t.near = true := List.all_eq_true.2 fun p hp => by
  have := hC p hp
  simp only [decide_eq_true_eq]; omega
theorem liftErr_no {t : Tm} (h : t.err = 0) (hC : ∀ p ∈ t.vars 0, p.1 ≤ 1000000) {fr by_ : Int} (hf : 0 ≤ fr ∧ fr ≤ 4096) (hb : 0 ≤ by_ ∧ by_ ≤ 4096) : liftErr t fr by_ = 0 := by
  rw [liftErr, if_neg (fun hc => hc h), if_neg]
  rintro (hc | hc | hc)
  · exact hc hf
  · exact hc hb
  · rw [near_idx hC] at hc; cases hc
theorem lift_same (t : Tm) (a n m : Int) (hn : 0 ≤ n) : (t.re (liftG a n) 0).re (liftG a m) 0 = t.re (liftG a (n + m)) 0 := by
  rw [re_re]
  refine re_congr t 0 fun p hp => ?_
  simp only [liftG_eq, re_vT]
  congr 1
  by_cases h : p.1 - p.2 ≥ a
  · rw [if_pos h, if_pos (by omega), if_pos h]; omega
  · rw [if_neg h, if_neg h, if_neg h]
theorem lower_lift {t : Tm} (hs : t.shape = true) (a : Int) (s : Tm) : (t.re (liftG a 1) 0).re (putG a s) 0 = t := by
  rw [re_re]
  refine re_id t 0 hs fun p hp => ?_
  simp only [liftG_eq, re_vT, putG_eq]
  by_cases h : p.1 - p.2 ≥ a
  · rw [if_pos h, if_neg (by omega), if_pos (by omega)]; congr 1; omega
  · rw [if_neg h, if_neg (by omega), if_neg (by omega)]
theorem cnt_lifted {t : Tm} (hs : t.shape = true) (a : Int) : cnt a ((t.re (liftG a 1) 0).vars 0) = 0 := by
  rw [lift_vars _ _ _ _ hs]
  have : ∀ l : List (Int × Int), cnt a (l.map fun p => (if p.1 - p.2 ≥ a then p.1 + 1 else p.1, p.2)) = 0 := by
    intro l
    induction l with
    | nil => rfl
    | cons p l ih =>
      rw [List.map_cons, show ∀ (x : Int × Int) l, x :: l = [x] ++ l from fun _ _ => rfl, cnt_append, ih, cnt_one, if_neg]
      simp only
      split <;> omega
  exact this _
/-- Lowering. -/
def lowerErr (t : Tm) (a : Int) : Int := if t.err ≠ 0 then t.err else if ¬ (0 ≤ a ∧ a ≤ 4096) then 1 else if 0 < cnt a (t.vars 0) then 6 else 0
theorem lowerErr_lift {t : Tm} (h : t.err = 0) {a : Int} (ha : 0 ≤ a ∧ a ≤ 4096) : lowerErr (t.re (liftG a 1) 0) a = 0 := by
  rw [lowerErr, if_neg (fun hc => hc (lift_err h (by omega))), if_neg (fun hc => hc ha), if_neg (by rw [cnt_lifted (t.err_iff.1 h).1]; omega)]
end Go.Ab
/- Plain facts: the free variables of a term with another one put in, counted by a set. -/
namespace Go.Ab
open Go
set_option linter.all false
/-- What stands for the variables behind the first. -/
def prevs (l : List Int) : List Int := (l.filter fun v => decide (v ≠ 0)).map (· - 1)
def wantI (a b : List Int) : List Int := nub (nub [] (prevs a)) (if 0 ∈ a then b else [])
end Go.Ab
/- Plain facts: a term with another one put in, checked; how great its variables are. -/
namespace Go.Ab
open Go
set_option linter.all false
theorem uses_bd {t : Tm} {C : Int} (h : ∀ p ∈ t.vars 0, p.1 ≤ C) : ∀ v ∈ usesI t, 0 ≤ v ∧ v ≤ C := fun v hv => by
  obtain ⟨h0, h1⟩ := mem_usesI.1 hv
  obtain ⟨p, hp, rfl⟩ := mem_cnt.2 h1
  have h2 := h p hp
  have h3 := vars_snd t 0 p hp
  omega
/- What the law's loops have found. -/
def hasM (a : List Int) (m : Nat) : Bool := decide (0 ∈ a.take m)
def wM (a : List Int) (m : Nat) : List Int := nub [] (prevs (a.take m))
def wN (a b : List Int) (h : Bool) (m : Nat) : List Int := nub (wM a a.length) (if h = true then b.take m else [])
end Go.Ab
