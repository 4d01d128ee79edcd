/- A part of the proofs of this seat's statements: D113. It has no conditions of its own. -/
import Derived.Test.YtcohcngdoeadgaaGreatDoorD1
namespace Go.Ab
set_option linter.all false
theorem mtchR_sym{a b:Tm}{s:Int}(h:mtchR a b s=0):mtchR b a s=0:=by
 unfold mtchR at h ⊢
 by_cases h1:a.err=0
 ·by_cases h2:b.err=0
  ·rw [if_neg (by simp[h1]),if_neg (by simp[h2])] at h
   rw[if_neg (by simp[h2]),if_neg (by simp[h1])]
   by_cases h3:a=b
   ·rw [if_pos h3.symm]
   ·rw [if_neg h3] at h
    rw[if_neg (Ne.symm h3)]
    by_cases h4:(normR a s).2.2=0
    ·by_cases h5:(normR b s).2.2=0
     ·rw [if_neg (by simp[h4]),if_neg (by simp[h5])] at h
      rw[if_neg (by simp[h5]),if_neg (by simp[h4])]
      by_cases h6:(normR a s).1=(normR b s).1
      ·rw [if_pos h6.symm]
      ·rw [if_neg h6] at h;cases h
     ·rw [if_neg (by simp[h4]),if_pos h5] at h;exact absurd h h5
    ·rw [if_pos h4] at h;exact absurd h h4
  ·rw [if_neg (by simp[h1]),if_pos h2] at h;exact absurd h h2
 ·rw [if_pos h1] at h;exact absurd h h1
theorem mtchR_zero{a b:Tm}{s:Int}(h:mtchR a b s=0):a.err=0∧b.err=0∧(a=b∨((normR a s).2.2=0∧(normR b s).2.2=0∧(normR a s).1=(normR b s).1)):=by
 unfold mtchR at h
 by_cases h1:a.err=0
 ·by_cases h2:b.err=0
  ·rw [if_neg (by simp[h1]),if_neg (by simp[h2])] at h
   refine⟨h1,h2,?_⟩
   by_cases h3:a=b
   ·exact .inl h3
   ·rw [if_neg h3] at h
    by_cases h4:(normR a s).2.2=0
    ·by_cases h5:(normR b s).2.2=0
     ·rw [if_neg (by simp[h4]),if_neg (by simp[h5])] at h
      by_cases h6:(normR a s).1=(normR b s).1
      ·exact .inr ⟨h4,h5,h6⟩
      ·rw [if_neg h6] at h;cases h
     ·rw [if_neg (by simp[h4]),if_pos h5] at h;exact absurd h h5
    ·rw [if_pos h4] at h;exact absurd h h4
  ·rw [if_neg (by simp[h1]),if_pos h2] at h;exact absurd h h2
 ·rw [if_pos h1] at h;exact absurd h h1
theorem mtchR_trans{a b c:Tm}{s:Int}(h:mtchR a b s=0)(h':mtchR b c s=0):mtchR a c s=0:=by
 obtain⟨e1,e2,h⟩:=mtchR_zero h
 obtain⟨_,e3,h'⟩:=mtchR_zero h'
 unfold mtchR
 rw[if_neg (by simp[e1]),if_neg (by simp[e3])]
 by_cases h3:a=c
 ·rw [if_pos h3]
 rw[if_neg h3]
 have key:(normR a s).2.2=0∧(normR c s).2.2=0∧(normR a s).1=(normR c s).1:=by
  rcases h with rfl|⟨p1,p2,p3⟩
  ·rcases h' with rfl|h'
   ·exact absurd rfl h3
   ·exact h'
  ·rcases h' with rfl|⟨q1,q2,q3⟩
   ·exact ⟨p1,p2,p3⟩
   ·exact ⟨p1,q2,p3.trans q3⟩
 rw[if_neg (by simp[key.1]),if_neg (by simp[key.2.1]),if_pos key.2.2]
end Go.Ab
