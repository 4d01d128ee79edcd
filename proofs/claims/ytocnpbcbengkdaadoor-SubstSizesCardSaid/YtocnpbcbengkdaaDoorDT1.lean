/- A part of the proofs of this seat's statements: D33, D34, D35, D36. It has no conditions of its own. -/
import Derived.Test.YtocnpbcbengkdaaDoorD1
import Derived.Test.YtocnpbcbengkdaaDoorAT1
/- Plain facts: the free variables of a term, as a list without repeats, ascending. -/
namespace Go.Ab
open Go
set_option linter.all false
theorem kA_none {k : Int} : ∀ {l : List Int}, k ∉ l → keyAt k l = none
  | [], _ => rfl
  | x :: l, h => by
    simp only [List.mem_cons, not_or] at h
    have h1 : ¬ x = k := fun e => h.1 e.symm
    simp only [keyAt, if_neg h1, kA_none h.2, Option.map_none]
theorem kA_some {k : Int} : ∀ {l : List Int}, k ∈ l → ∃ i, keyAt k l = some i
  | [], h => by cases h
  | x :: l, h => by
    by_cases hx : x = k
    · exact ⟨0, by simp [keyAt, hx]⟩
    · obtain ⟨i, hi⟩ := kA_some (l := l) (by rcases List.mem_cons.1 h with h | h; exact absurd h.symm hx; exact h)
      exact ⟨i + 1, by simp [keyAt, hx, hi]⟩
theorem putKs_eq (k : Int) (ks : List Int) : putKs k ks = if k ∈ ks then ks else ks ++ [k] := by
  by_cases h : k ∈ ks
  · obtain ⟨i, hi⟩ := kA_some h
    rw [if_pos h, putKs, hi]
  · rw [if_neg h, putKs, kA_none h]
theorem mem_putKs {k x : Int} {ks : List Int} : x ∈ putKs k ks ↔ x ∈ ks ∨ x = k := by
  rw [putKs_eq]
  split
  · rename_i h
    constructor
    · exact Or.inl
    · rintro (h1 | rfl)
      · exact h1
      · exact h
  · simp
theorem nodup_putKs {k : Int} {ks : List Int} (h : ks.Nodup) : (putKs k ks).Nodup := by
  rw [putKs_eq]
  split
  · exact h
  · rename_i h1
    exact List.nodup_append.2 ⟨h, by simp, fun a ha b hb e => by simp at hb; subst hb; subst e; exact h1 ha⟩
/-- A value for each key, all alike. -/
theorem putCs_same (k : Int) (ks : List Int) (b : Bool) : putCs k ks (List.replicate ks.length b) b = List.replicate (putKs k ks).length b := by
  unfold putCs putKs
  split
  · rename_i i hi
    apply List.ext_getElem?
    intro j
    rw [List.getElem?_set]
    split
    · rename_i e; subst e
      have := (keyAt_some hi).2
      simp [List.getElem?_replicate, this]
    · rfl
  · rw [List.length_append, ← List.replicate_append_replicate]; rfl
def nub (acc l : List Int) : List Int := l.foldl (fun ks k => putKs k ks) acc
theorem nub_app (acc l l' : List Int) : nub acc (l ++ l') = nub (nub acc l) l' := List.foldl_append
theorem nub_nil (acc : List Int) : nub acc [] = acc := rfl
theorem nub_one (acc : List Int) (k : Int) : nub acc [k] = putKs k acc := rfl
theorem mem_nub {x : Int} : ∀ {l acc : List Int}, x ∈ nub acc l ↔ x ∈ acc ∨ x ∈ l
  | [], acc => by simp [nub]
  | k :: l, acc => by
    show x ∈ nub (putKs k acc) l ↔ _
    rw [mem_nub, mem_putKs, List.mem_cons, or_assoc]
theorem nodup_nub : ∀ {l acc : List Int}, acc.Nodup → (nub acc l).Nodup
  | [], acc, h => h
  | k :: l, acc, h => nodup_nub (l := l) (nodup_putKs h)
theorem nub_len : ∀ (l acc : List Int), (nub acc l).length ≤ acc.length + l.length
  | [], acc => by simp [nub]
  | k :: l, acc => by
    have h1 := nub_len l (putKs k acc)
    have h2 : (putKs k acc).length ≤ acc.length + 1 := by rw [putKs_eq]; split <;> simp
    show (nub (putKs k acc) l).length ≤ _
    rw [List.length_cons]; omega
/-- The free variables, as they come. -/
def fre (l : List (Int × Int)) : List Int := l.filterMap fun p => if p.2 ≤ p.1 then some (p.1 - p.2) else none
theorem fre_app (l l' : List (Int × Int)) : fre (l ++ l') = fre l ++ fre l' := List.filterMap_append
theorem fre_nil : fre [] = [] := rfl
theorem fre_one (i b : Int) : fre [(i, b)] = if b ≤ i then [i - b] else [] := by
  by_cases h : b ≤ i
  · simp [fre, h]
  · simp [fre, h]
theorem fre_len (l : List (Int × Int)) : (fre l).length ≤ l.length := List.length_filterMap_le _ _
theorem mem_fre {x : Int} {l : List (Int × Int)} : x ∈ fre l ↔ 0 ≤ x ∧ ∃ p ∈ l, p.1 - p.2 = x := by
  simp only [fre, List.mem_filterMap]
  constructor
  · rintro ⟨p, hp, h⟩
    split at h
    · cases h; exact ⟨by omega, p, hp, rfl⟩
    · cases h
  · rintro ⟨h0, p, hp, h⟩
    exact ⟨p, hp, by rw [if_pos (by omega), h]⟩
theorem mem_cnt {x : Int} : ∀ {l : List (Int × Int)}, (∃ p ∈ l, p.1 - p.2 = x) ↔ cnt x l ≠ 0
  | [] => by simp [cnt]
  | p :: l => by
    have ih := mem_cnt (x := x) (l := l)
    rw [show p :: l = [p] ++ l from rfl, cnt_append, cnt_one]
    constructor
    · rintro ⟨q, hq, h⟩
      rcases List.mem_append.1 hq with h1 | h1
      · simp at h1; subst h1; rw [if_pos h]; omega
      · have := ih.1 ⟨q, h1, h⟩; omega
    · intro h
      by_cases h1 : p.1 - p.2 = x
      · exact ⟨p, by simp, h1⟩
      · rw [if_neg h1] at h
        obtain ⟨q, hq, h2⟩ := ih.2 (by omega)
        exact ⟨q, by simp [hq], h2⟩
def useK (t : Tm) : List Int := nub [] (fre (t.vars 0))
/-- The free variables of a term, ascending. -/
def usesI (t : Tm) : List Int := sortI (useK t)
theorem useK_nodup (t : Tm) : (useK t).Nodup := nodup_nub List.nodup_nil
theorem mem_useK {t : Tm} {x : Int} : x ∈ useK t ↔ 0 ≤ x ∧ cnt x (t.vars 0) ≠ 0 := by rw [useK, mem_nub, mem_fre, mem_cnt]; simp
theorem useK_len (t : Tm) : (useK t).length ≤ t.size := by
  have h1 := nub_len (fre (t.vars 0)) []
  have h2 := fre_len (t.vars 0)
  have h3 := t.vars_len 0
  simp only [useK, List.length_nil] at *; omega
theorem sortI_perm (l : List Int) : (sortI l).Perm l := List.mergeSort_perm l _
theorem mem_usesI {t : Tm} {x : Int} : x ∈ usesI t ↔ 0 ≤ x ∧ cnt x (t.vars 0) ≠ 0 := by rw [usesI, (sortI_perm _).mem_iff, mem_useK]
theorem usesI_nodup (t : Tm) : (usesI t).Nodup := (sortI_perm _).nodup_iff.2 (useK_nodup t)
theorem usesI_len (t : Tm) : (usesI t).length ≤ t.size := by rw [usesI, (sortI_perm _).length_eq]; exact useK_len t
/- Lifting. -/
def shI (fr by_ v : Int) : Int := if v ≥ fr then v + by_ else v
/- Putting a term in. -/
theorem uses_put {x y : Tm} (hx : x.shape = true) (hy : y.shape = true) {j : Int} (hj : 0 ≤ j) :
    j ∈ usesI (x.re (putG 0 y) 0) ↔ (j + 1 ∈ usesI x ∨ (0 ∈ usesI x ∧ j ∈ usesI y)) := by
  rw [mem_usesI, mem_usesI, mem_usesI, mem_usesI, ← mem_cnt, ← mem_cnt, ← mem_cnt, ← mem_cnt, vars_re _ _ _ hx]
  have key : ∀ p ∈ x.vars 0, p.1 - p.2 = 0 → ((∃ q ∈ (putG 0 y p.1 p.2).vars p.2, q.1 - q.2 = j) ↔ ∃ q ∈ y.vars 0, q.1 - q.2 = j) := fun p hp h => by
    have h1 := vars_snd x 0 p hp
    rw [putG_eq, if_pos h, mem_cnt, mem_cnt, Int.zero_add, cnt_shift, lift_vars _ _ _ _ hy, cnt_map (a' := j)]
    intro q hq
    have h2 := vars_snd y 0 q hq
    simp only
    split <;> omega
  have key2 : ∀ p ∈ x.vars 0, ¬ p.1 - p.2 = 0 → ((∃ q ∈ (putG 0 y p.1 p.2).vars p.2, q.1 - q.2 = j) ↔ p.1 - p.2 = j + 1) := fun p hp h => by
    rw [putG_eq, if_neg h, vars_vT]
    simp only [List.mem_singleton, exists_eq_left]
    split <;> omega
  constructor
  · rintro ⟨_, q, hq, h⟩
    obtain ⟨p, hp, hq⟩ := List.mem_flatMap.1 hq
    by_cases h0 : p.1 - p.2 = 0
    · exact .inr ⟨⟨by omega, p, hp, h0⟩, hj, (key p hp h0).1 ⟨q, hq, h⟩⟩
    · exact .inl ⟨by omega, p, hp, (key2 p hp h0).1 ⟨q, hq, h⟩⟩
  · rintro (⟨_, p, hp, h⟩ | ⟨⟨_, p, hp, h⟩, _, h1⟩)
    · obtain ⟨q, hq, h2⟩ := (key2 p hp (by omega)).2 h
      exact ⟨hj, q, List.mem_flatMap.2 ⟨p, hp, hq⟩, h2⟩
    · obtain ⟨q, hq, h2⟩ := (key p hp h).2 h1
      exact ⟨hj, q, List.mem_flatMap.2 ⟨p, hp, hq⟩, h2⟩
end Go.Ab
/- Plain facts: lifting from any variable on, lowering; the sizes of terms with another one put in. -/
namespace Go.Ab
open Go
set_option linter.all false
/-- Lowering. -/
def lowerErr (t : Tm) (a : Int) : Int := if t.err ≠ 0 then t.err else if ¬ (0 ≤ a ∧ a ≤ 4096) then 1 else if 0 < cnt a (t.vars 0) then 6 else 0
end Go.Ab
/- Plain facts: the free variables of a term with another one put in, counted by a set. -/
namespace Go.Ab
open Go
set_option linter.all false
theorem lkB_all (k : Int) (ks : List Int) : lkB k ks (List.replicate ks.length true) = decide (k ∈ ks) := by
  by_cases h : k ∈ ks
  · obtain ⟨i, hi⟩ := kA_some h
    have := (keyAt_some hi).2
    simp [lkB, hi, h, List.getD_eq_getElem?_getD, List.getElem?_replicate, this]
  · simp [lkB, kA_none h, h]
theorem take_snoc {α : Type} (l : List α) (m : Nat) (h : m < l.length) : l.take (m + 1) = l.take m ++ [l[m]] := by
  rw [List.take_succ, List.getElem?_eq_getElem h]; rfl
/-- What stands for the variables behind the first. -/
def prevs (l : List Int) : List Int := (l.filter fun v => decide (v ≠ 0)).map (· - 1)
theorem prevs_app (l l' : List Int) : prevs (l ++ l') = prevs l ++ prevs l' := by simp [prevs]
theorem prevs_zero : prevs [0] = [] := by simp [prevs]
theorem prevs_one {v : Int} (h : v ≠ 0) : prevs [v] = [v - 1] := by simp [prevs, h]
theorem mem_prevs {j : Int} {l : List Int} : j ∈ prevs l ↔ j + 1 ∈ l ∧ j + 1 ≠ 0 := by
  simp only [prevs, List.mem_map, List.mem_filter, decide_eq_true_eq]
  constructor
  · rintro ⟨v, ⟨h1, h2⟩, rfl⟩
    rw [Int.sub_add_cancel]; exact ⟨h1, h2⟩
  · rintro ⟨h1, h2⟩
    exact ⟨j + 1, ⟨h1, h2⟩, by omega⟩
def wantI (a b : List Int) : List Int := nub (nub [] (prevs a)) (if 0 ∈ a then b else [])
theorem want_mem {x y : Tm} (hx : x.shape = true) (hy : y.shape = true) (j : Int) : j ∈ usesI (x.re (putG 0 y) 0) ↔ j ∈ wantI (usesI x) (usesI y) := by
  rw [wantI, mem_nub, mem_nub, mem_prevs]
  constructor
  · intro h
    have hj := (mem_usesI.1 h).1
    rcases (uses_put hx hy hj).1 h with h1 | ⟨h1, h2⟩
    · exact .inl (.inr ⟨h1, by omega⟩)
    · exact .inr (by rw [if_pos h1]; exact h2)
  · rintro ((h | ⟨h, h0⟩) | h)
    · cases h
    · have := (mem_usesI.1 h).1
      exact (uses_put hx hy (by omega)).2 (.inl h)
    · split at h
      · rename_i h1
        exact (uses_put hx hy (mem_usesI.1 h).1).2 (.inr ⟨h1, h⟩)
      · cases h
theorem want_nodup (a b : List Int) : (wantI a b).Nodup := nodup_nub (nodup_nub List.nodup_nil)
theorem want_len {x y : Tm} (hx : x.shape = true) (hy : y.shape = true) : (usesI (x.re (putG 0 y) 0)).length = (wantI (usesI x) (usesI y)).length :=
  ((List.perm_ext_iff_of_nodup (usesI_nodup _) (want_nodup _ _)).2 (want_mem hx hy)).length_eq
theorem put_rem {x y : Tm} (hx : x.shape = true) (hy : y.shape = true) : (((x.re (putG 0 y) 0).size : Int) - x.size).tmod ((y.size : Int) - 1) = 0 := by
  have h := put_size 0 y x hy 0 hx
  have e : (((x.re (putG 0 y) 0).size : Int) - x.size) = cnt 0 (x.vars 0) * ((y.size : Int) - 1) := by
    have h1 := y.size_pos
    obtain ⟨k, hk⟩ : ∃ k, y.size = k + 1 := ⟨y.size - 1, by omega⟩
    rw [h, hk]; simp; omega
  rw [e]; exact Int.mul_tmod_left _ _
end Go.Ab
/- Plain facts: a term with another one put in, checked; how great its variables are. -/
namespace Go.Ab
open Go
set_option linter.all false
theorem put_err {x y : Tm} (hx : x.err = 0) (hy : y.err = 0) (h : putErr x 0 y = 0) : (x.re (putG 0 y) 0).err = 0 := by
  have xs := (err_zero hx).1
  have ys := (err_zero hy).1
  refine (Tm.err_iff _).2 ⟨put_shape 0 ys xs (by omega) (by omega) fun p hp => vars_snd x 0 p hp, ?_⟩
  rw [put_size 0 y x ys 0 xs]
  rw [putErr, if_neg (fun hc => hc hx), if_neg (fun hc => hc (by omega)), if_neg (fun hc => hc hy)] at h
  split at h
  · omega
  · split at h
    · omega
    · rename_i h1
      have h2 := y.size_pos
      obtain ⟨k, hk⟩ : ∃ k, y.size = k + 1 := ⟨y.size - 1, by omega⟩
      rw [hk] at h1 ⊢
      simp at h1 ⊢
      omega
theorem uses_bd {t : Tm} {C : Int} (h : ∀ p ∈ t.vars 0, p.1 ≤ C) : ∀ v ∈ usesI t, 0 ≤ v ∧ v ≤ C := fun v hv => by
  obtain ⟨h0, h1⟩ := mem_usesI.1 hv
  obtain ⟨p, hp, rfl⟩ := mem_cnt.2 h1
  have h2 := h p hp
  have h3 := vars_snd t 0 p hp
  omega
/- What the law's loops have found. -/
def hasM (a : List Int) (m : Nat) : Bool := decide (0 ∈ a.take m)
def wM (a : List Int) (m : Nat) : List Int := nub [] (prevs (a.take m))
def wN (a b : List Int) (h : Bool) (m : Nat) : List Int := nub (wM a a.length) (if h = true then b.take m else [])
theorem hasM_zero (a : List Int) : hasM a 0 = false := by simp [hasM]
theorem wM_zero (a : List Int) : wM a 0 = [] := by simp [wM, prevs, nub]
theorem wN_zero (a b : List Int) (h : Bool) : wN a b h 0 = wM a a.length := by cases h <;> simp [wN, nub]
theorem hasM_z {a : List Int} {m : Nat} (hm : m < a.length) (h : a[m] = 0) : hasM a (m + 1) = true := by simp [hasM, take_snoc a m hm, h]
theorem wM_z {a : List Int} {m : Nat} (hm : m < a.length) (h : a[m] = 0) : wM a (m + 1) = wM a m := by
  rw [wM, take_snoc a m hm, h, prevs_app, prevs_zero, List.append_nil]; rfl
theorem hasM_n {a : List Int} {m : Nat} (hm : m < a.length) (h : a[m] ≠ 0) : hasM a (m + 1) = hasM a m := by
  have : ¬ 0 = a[m] := fun e => h e.symm
  simp only [hasM, take_snoc a m hm, List.mem_append, List.mem_singleton, this, or_false]
theorem wM_n {a : List Int} {m : Nat} (hm : m < a.length) (h : a[m] ≠ 0) : wM a (m + 1) = putKs (a[m] - 1) (wM a m) := by
  rw [wM, take_snoc a m hm, prevs_app, prevs_one h, nub_app]; rfl
theorem wN_t {a b : List Int} {h : Bool} {m : Nat} (hm : m < b.length) (hh : h = true) : wN a b h (m + 1) = putKs b[m] (wN a b h m) := by
  rw [wN, wN, if_pos hh, if_pos hh, take_snoc b m hm, nub_app]; rfl
theorem wN_f {a b : List Int} {h : Bool} {m : Nat} (hh : h = false) : wN a b h (m + 1) = wN a b h m := by subst hh; simp [wN]
theorem wN_end (a b : List Int) : wN a b (hasM a a.length) b.length = wantI a b := by
  simp only [wN, hasM, wM, List.take_length, wantI, decide_eq_true_eq]
end Go.Ab
