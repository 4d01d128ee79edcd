/- A part of the proofs of this seat's statements: D33, D43, D34, D35, D36. It has no conditions of its own. -/
import Derived.Test.YtldcgffbdlphfaaGreatDoorD1
import Derived.Test.YtldcgffbdlphfaaGreatDoorAT1
/- Plain facts: the free variables of a term, as a list without repeats, ascending. -/
namespace Go.Ab
open Go
set_option linter.all false
theorem kA_none {k : Int} : ∀ {l : List Int}, k ∉ l → keyAt k l = none
  | [], _ => rfl
  | x :: l, h => by
    simp only [List.mem_cons, not_or] at h
    have h1 : ¬ x = k := fun e => h.1 e.symm
    simp only [keyAt, if_neg h1, kA_none h.2, Option.map_none]
theorem kA_some {k : Int} : ∀ {l : List Int}, k ∈ l → ∃ i, keyAt k l = some i
  | [], h => by cases h
  | x :: l, h => by
    by_cases hx : x = k
    · exact ⟨0, by simp [keyAt, hx]⟩
    · obtain ⟨i, hi⟩ := kA_some (l := l) (by rcases List.mem_cons.1 h with h | h; exact absurd h.symm hx; exact h)
      exact ⟨i + 1, by simp [keyAt, hx, hi]⟩
theorem putKs_eq (k : Int) (ks : List Int) : putKs k ks = if k ∈ ks then ks else ks ++ [k] := by
  by_cases h : k ∈ ks
  · obtain ⟨i, hi⟩ := kA_some h
    rw [if_pos h, putKs, hi]
  · rw [if_neg h, putKs, kA_none h]
theorem mem_putKs {k x : Int} {ks : List Int} : x ∈ putKs k ks ↔ x ∈ ks ∨ x = k := by
  rw [putKs_eq]
  split
  · rename_i h
    constructor
    · exact Or.inl
    · rintro (h1 | rfl)
      · exact h1
      · exact h
  · simp
theorem nodup_putKs {k : Int} {ks : List Int} (h : ks.Nodup) : (putKs k ks).Nodup := by
  rw [putKs_eq]
  split
  · exact h
  · rename_i h1
    exact List.nodup_append.2 ⟨h, by simp, fun a ha b hb e => by simp at hb; subst hb; subst e; exact h1 ha⟩
/-- A value for each key, all alike. -/
theorem putCs_same (k : Int) (ks : List Int) (b : Bool) : putCs k ks (List.replicate ks.length b) b = List.replicate (putKs k ks).length b := by
  unfold putCs putKs
  split
  · rename_i i hi
    apply List.ext_getElem?
    intro j
    rw [List.getElem?_set]
    split
    · rename_i e; subst e
      have := (keyAt_some hi).2
      simp [List.getElem?_replicate, this]
    · rfl
  · rw [List.length_append, ← List.replicate_append_replicate]; rfl
def nub (acc l : List Int) : List Int := l.foldl (fun ks k => putKs k ks) acc
theorem nub_app (acc l l' : List Int) : nub acc (l ++ l') = nub (nub acc l) l' := List.foldl_append
theorem nub_nil (acc : List Int) : nub acc [] = acc := rfl
theorem nub_one (acc : List Int) (k : Int) : nub acc [k] = putKs k acc := rfl
theorem mem_nub {x : Int} : ∀ {l acc : List Int}, x ∈ nub acc l ↔ x ∈ acc ∨ x ∈ l
  | [], acc => by simp [nub]
  | k :: l, acc => by
    show x ∈ nub (putKs k acc) l ↔ _
    rw [mem_nub, mem_putKs, List.mem_cons, or_assoc]
theorem nodup_nub : ∀ {l acc : List Int}, acc.Nodup → (nub acc l).Nodup
  | [], acc, h => h
  | k :: l, acc, h => nodup_nub (l := l) (nodup_putKs h)
theorem nub_len : ∀ (l acc : List Int), (nub acc l).length ≤ acc.length + l.length
  | [], acc => by simp [nub]
  | k :: l, acc => by
    have h1 := nub_len l (putKs k acc)
    have h2 : (putKs k acc).length ≤ acc.length + 1 := by rw [putKs_eq]; split <;> simp
    show (nub (putKs k acc) l).length ≤ _
    rw [List.length_cons]; omega
/-- The free variables, as they come. -/
def fre (l : List (Int × Int)) : List Int := l.filterMap fun p => if p.2 ≤ p.1 then some (p.1 - p.2) else none
theorem fre_app (l l' : List (Int × Int)) : fre (l ++ l') = fre l ++ fre l' := List.filterMap_append
theorem fre_nil : fre [] = [] := rfl
theorem fre_one (i b : Int) : fre [(i, b)] = if b ≤ i then [i - b] else [] := by
  by_cases h : b ≤ i
  · simp [fre, h]
  · simp [fre, h]
theorem fre_len (l : List (Int × Int)) : (fre l).length ≤ l.length := List.length_filterMap_le _ _
theorem mem_fre {x : Int} {l : List (Int × Int)} : x ∈ fre l ↔ 0 ≤ x ∧ ∃ p ∈ l, p.1 - p.2 = x := by
  simp only [fre, List.mem_filterMap]
  constructor
  · rintro ⟨p, hp, h⟩
    split at h
    · cases h; exact ⟨by omega, p, hp, rfl⟩
    · cases h
  · rintro ⟨h0, p, hp, h⟩
    exact ⟨p, hp, by rw [if_pos (by omega), h]⟩
theorem mem_cnt {x : Int} : ∀ {l : List (Int × Int)}, (∃ p ∈ l, p.1 - p.2 = x) ↔ cnt x l ≠ 0
  | [] => by simp [cnt]
  | p :: l => by
    have ih := mem_cnt (x := x) (l := l)
    rw [show p :: l = [p] ++ l from rfl, cnt_append, cnt_one]
    constructor
    · rintro ⟨q, hq, h⟩
      rcases List.mem_append.1 hq with h1 | h1
      · simp at h1; subst h1; rw [if_pos h]; omega
      · have := ih.1 ⟨q, h1, h⟩; omega
    · intro h
      by_cases h1 : p.1 - p.2 = x
      · exact ⟨p, by simp, h1⟩
      · rw [if_neg h1] at h
        obtain ⟨q, hq, h2⟩ := ih.2 (by omega)
        exact ⟨q, by simp [hq], h2⟩
def useK (t : Tm) : List Int := nub [] (fre (t.vars 0))
/-- The free variables of a term, ascending. -/
def usesI (t : Tm) : List Int := sortI (useK t)
theorem useK_nodup (t : Tm) : (useK t).Nodup := nodup_nub List.nodup_nil
theorem mem_useK {t : Tm} {x : Int} : x ∈ useK t ↔ 0 ≤ x ∧ cnt x (t.vars 0) ≠ 0 := by rw [useK, mem_nub, mem_fre, mem_cnt]; simp
theorem useK_len (t : Tm) : (useK t).length ≤ t.size := by
  have h1 := nub_len (fre (t.vars 0)) []
  have h2 := fre_len (t.vars 0)
  have h3 := t.vars_len 0
  simp only [useK, List.length_nil] at *; omega
theorem sortI_perm (l : List Int) : (sortI l).Perm l := List.mergeSort_perm l _
theorem sortI_sorted (l : List Int) : (sortI l).Pairwise (· ≤ ·) := by
  have h := List.pairwise_mergeSort (le := fun x y : Int => decide (x ≤ y)) (fun a b c h1 h2 => by simp only [decide_eq_true_eq] at *; omega) (fun a b => by simp only [Bool.or_eq_true, decide_eq_true_eq]; omega) l
  exact h.imp fun h => by simpa using h
theorem sorted_eq {l l' : List Int} (hp : l.Perm l') (h : l.Pairwise (· ≤ ·)) (h' : l'.Pairwise (· ≤ ·)) : l = l' :=
  hp.eq_of_pairwise (le := (· ≤ ·)) (fun a b _ _ h1 h2 => by omega) h h'
theorem sortI_of_perm {l l' : List Int} (hp : l.Perm l') : sortI l = sortI l' :=
  sorted_eq ((sortI_perm l).trans (hp.trans (sortI_perm l').symm)) (sortI_sorted l) (sortI_sorted l')
theorem usesI_len (t : Tm) : (usesI t).length ≤ t.size := by rw [usesI, (sortI_perm _).length_eq]; exact useK_len t
/- Lifting. -/
def shI (fr by_ v : Int) : Int := if v ≥ fr then v + by_ else v
/- Putting a term in. -/
end Go.Ab
/- Plain facts: a number that is put into an ascending list, from the right. -/
namespace Go.Ab
open Go
set_option linter.all false
/-- The list while the greater ones move: the place i holds one of them twice, or the new one. -/
def insS (l : List Int) (n : Int) (i : Nat) : List Int := l.take i ++ (l.getD i n :: l.drop i)
def insE (l : List Int) (n : Int) (i : Nat) : List Int := l.take i ++ n :: l.drop i
theorem insS_end (l : List Int) (n : Int) : insS l n l.length = l ++ [n] := by simp [insS]
theorem insS_len {l : List Int} {n : Int} {i : Nat} (h : i ≤ l.length) : (insS l n i).length = l.length + 1 := by simp [insS]; omega
theorem insS_at {l : List Int} {n : Int} {i : Nat} (h : i < l.length) (h' : i < (insS l n (i + 1)).length) : (insS l n (i + 1))[i] = l[i] := by
  simp only [insS]
  rw [List.getElem_append_left (by simp; omega), List.getElem_take]
theorem insS_step {l : List Int} {n : Int} {i : Nat} (h : i < l.length) : (insS l n (i + 1)).set (i + 1) l[i] = insS l n i := by
  have h1 : (l.take (i + 1)).length = i + 1 := by simp; omega
  simp only [insS]
  have e : l.take (i + 1) = l.take i ++ [l[i]] := by rw [List.take_succ, List.getElem?_eq_getElem h]; rfl
  rw [List.set_append_right (h := by omega), h1, Nat.sub_self, List.set_cons_zero, e, List.append_assoc, List.singleton_append, ← List.drop_eq_getElem_cons h]
  congr 2
  rw [List.getD_eq_getElem?_getD, List.getElem?_eq_getElem h]; rfl
theorem insS_done {l : List Int} {n : Int} {i : Nat} (h : i ≤ l.length) : (insS l n i).set i n = insE l n i := by
  have h1 : (l.take i).length = i := by simp; omega
  simp only [insS, insE]
  rw [List.set_append_right (h := by omega), h1, Nat.sub_self, List.set_cons_zero]
theorem insE_perm (l : List Int) (n : Int) (i : Nat) : (insE l n i).Perm (n :: l) := by
  have h1 : (insE l n i).Perm (n :: (l.take i ++ l.drop i)) := List.perm_middle
  rwa [List.take_append_drop] at h1
theorem insE_sorted {l : List Int} {n : Int} {i : Nat} (hs : l.Pairwise (· ≤ ·)) (h : ∀ x ∈ l.drop i, n < x) (h' : ∀ (hi : 0 < i) (hl : i - 1 < l.length), l[i - 1] ≤ n) (hil : i ≤ l.length) : (insE l n i).Pairwise (· ≤ ·) := by
  have hs' := hs
  rw [← List.take_append_drop i l, List.pairwise_append] at hs
  obtain ⟨h1, h2, h3⟩ := hs
  have ht : ∀ x ∈ l.take i, x ≤ n := fun x hx => by
    obtain ⟨j, hj, hx2⟩ := List.mem_iff_getElem.1 hx
    have hj2 : j < i := by simp at hj; omega
    rw [List.getElem_take] at hx2
    have h4 := h' (by omega) (by omega)
    rcases Nat.lt_or_ge j (i - 1) with h5 | h5
    · have := List.pairwise_iff_getElem.1 hs' j (i - 1) (by omega) (by omega) h5
      omega
    · have h6 : j = i - 1 := by omega
      subst h6; omega
  rw [insE, List.pairwise_append]
  refine ⟨h1, List.pairwise_cons.2 ⟨fun x hx => by have := h x hx; omega, h2⟩, fun x hx y hy => ?_⟩
  rcases List.mem_cons.1 hy with rfl | hy
  · exact ht x hx
  · exact h3 x hx y hy
theorem sortI_ins {d : List Int} {n : Int} {i : Nat} (h : ∀ x ∈ (sortI d).drop i, n < x) (h' : ∀ (hi : 0 < i) (hl : i - 1 < (sortI d).length), (sortI d)[i - 1] ≤ n) (hil : i ≤ (sortI d).length) : insE (sortI d) n i = sortI (d ++ [n]) := by
  refine sorted_eq ?_ (insE_sorted (sortI_sorted d) h h' hil) (sortI_sorted _)
  refine ((insE_perm _ _ _).trans ((sortI_perm d).cons n)).trans (?_ : (n :: d).Perm _)
  exact ((List.perm_append_comm (l₁ := [n]) (l₂ := d)).trans (sortI_perm _).symm)
theorem sortI_len (d : List Int) : (sortI d).length = d.length := (sortI_perm d).length_eq
theorem sortI_nil : sortI [] = [] := List.mergeSort_nil
theorem nodup_sub : ∀ {l ks : List Int}, l.Nodup → (∀ x ∈ l, x ∈ ks) → l.length ≤ ks.length
  | [], _, _, _ => Nat.zero_le _
  | x :: l, ks, hn, h => by
    obtain ⟨h1, h2⟩ := List.nodup_cons.1 hn
    have h3 := h x (by simp)
    have h4 := nodup_sub (l := l) (ks := ks.erase x) h2 fun y hy => (List.mem_erase_of_ne (fun e : y = x => h1 (by rw [← e]; exact hy))).2 (h y (by simp [hy]))
    rw [List.length_erase_of_mem h3] at h4
    have : 0 < ks.length := List.length_pos_of_mem h3
    simp only [List.length_cons]; omega
end Go.Ab
/- Plain facts: lifting from any variable on, lowering; the sizes of terms with another one put in. -/
namespace Go.Ab
open Go
set_option linter.all false
/-- Lowering. -/
def lowerErr (t : Tm) (a : Int) : Int := if t.err ≠ 0 then t.err else if ¬ (0 ≤ a ∧ a ≤ 4096) then 1 else if 0 < cnt a (t.vars 0) then 6 else 0
end Go.Ab
/- Plain facts: the free variables of a term with another one put in, counted by a set. -/
namespace Go.Ab
open Go
set_option linter.all false
/-- What stands for the variables behind the first. -/
def prevs (l : List Int) : List Int := (l.filter fun v => decide (v ≠ 0)).map (· - 1)
def wantI (a b : List Int) : List Int := nub (nub [] (prevs a)) (if 0 ∈ a then b else [])
end Go.Ab
/- Plain facts: a term with another one put in, checked; how great its variables are. -/
namespace Go.Ab
open Go
set_option linter.all false
/- What the law's loops have found. -/
def hasM (a : List Int) (m : Nat) : Bool := decide (0 ∈ a.take m)
def wM (a : List Int) (m : Nat) : List Int := nub [] (prevs (a.take m))
def wN (a b : List Int) (h : Bool) (m : Nat) : List Int := nub (wM a a.length) (if h = true then b.take m else [])
end Go.Ab
