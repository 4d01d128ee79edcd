/- A part of the proofs of this seat's statements: D114. It has no conditions of its own. -/
import Derived.Test.YtcohcngdoeadgaaGreatDoorXD1
import Derived.Test.YtcohcngdoeadgaaGreatDoorD1
namespace Go.Ab
set_option linter.all false
theorem mtTs_sym:∀l m:List Tm,mtTs l m=0→mtTs m l=0
 |[],[],_=>rfl
 |[],_::_,_=>by simp only[mtTs]
 |_::_,[],_=>by simp only[mtTs]
 |x::l,y::m,h=>by
  simp only[mtTs] at h ⊢
  by_cases h1:mtchR x y 1000=0
  ·rw [if_neg (by simp[h1])] at h
   rw[if_neg (by simp[mtchR_sym h1])]
   exact mtTs_sym l m h
  ·rw [if_pos h1] at h;exact absurd h h1
theorem mtTs_trans:∀l m n:List Tm,l.length=m.length→mtTs l m=0→mtTs m n=0→mtTs l n=0
 |[],_,_,_,_,_=>by simp only[mtTs]
 |_::_,[],_,h,_,_=>by cases h
 |_::_,_::_,[],_,_,_=>by simp only[mtTs]
 |x::l,y::m,z::n,hl,h,h'=>by
  simp only[mtTs] at h h' ⊢
  by_cases h1:mtchR x y 1000=0
  ·rw [if_neg (by simp[h1])] at h
   by_cases h2:mtchR y z 1000=0
   ·rw [if_neg (by simp[h2])] at h'
    rw[if_neg (by simp[mtchR_trans h1 h2])]
    exact mtTs_trans l m n (by simpa using hl) h h'
   ·rw [if_pos h2] at h';exact absurd h' h2
  ·rw [if_pos h1] at h;exact absurd h h1
theorem mtF_sym(f:Fm):∀g,mtF f g=0→mtF g f=0:=by
 induction f using Fm.ind with
 |h f ih=>
  intro g h
  have key:∀l:List Fm,(∀x∈l,∀g,mtF x g=0→mtF g x=0)→∀m,mtFs l m=0→mtFs m l=0:=by
   intro l
   induction l with
   |nil=>intro _ m _;cases m<;>simp only[mtFs]
   |cons x l ih2=>
    intro h1 m hm
    cases m with
    |nil=>simp only[mtFs]
    |cons y m=>
     simp only[mtFs] at hm ⊢
     by_cases h2:mtF x y=0
     ·rw [if_neg (by simp[h2])] at hm
      rw[if_neg (by simp[h1 x List.mem_cons_self y h2])]
      exact ih2 (fun z hz=>h1 z (List.mem_cons_of_mem _ hz)) m hm
     ·rw [if_pos h2] at hm;exact absurd hm h2
  rw[mtF_eq] at h ⊢
  by_cases hk:f.kind=g.kind∧f.ty=g.ty
  ·rw [if_pos hk] at h
   rw[if_pos ⟨hk.1.symm,hk.2.symm⟩]
   by_cases ht:mtTs f.terms g.terms=0
   ·rw [if_neg (by simp[ht])] at h
    rw[if_neg (by simp[mtTs_sym _ _ ht])]
    exact key f.args ih g.args h
   ·rw [if_pos ht] at h;exact absurd h ht
  ·rw [if_neg hk] at h;cases h
theorem mtF_trans(f:Fm):∀g h,f.shape=true→g.shape=true→mtF f g=0→mtF g h=0→mtF f h=0:=by
 induction f using Fm.ind with
 |h f ih=>
  intro g h hf hg h1 h2
  have key:∀l:List Fm,(∀x∈l,x.shape=true∧∀g h,g.shape=true→mtF x g=0→mtF g h=0→mtF x h=0)→∀m n:List Fm,l.length=m.length→(∀y∈m,y.shape=true)→mtFs l m=0→mtFs m n=0→mtFs l n=0:=by
   intro l
   induction l with
   |nil=>intro _ m n _ _ _ _;cases n<;>simp only[mtFs]
   |cons x l ih2=>
    intro h3 m n hl hm h4 h5
    cases m with
    |nil=>cases hl
    |cons y m=>
     cases n with
     |nil=>simp only[mtFs]
     |cons z n=>
      simp only[mtFs] at h4 h5 ⊢
      by_cases e1:mtF x y=0
      ·rw [if_neg (by simp[e1])] at h4
       by_cases e2:mtF y z=0
       ·rw [if_neg (by simp[e2])] at h5
        rw[if_neg (by simp[(h3 x List.mem_cons_self).2 y z (hm y List.mem_cons_self) e1 e2])]
        exact ih2 (fun w hw=>h3 w (List.mem_cons_of_mem _ hw)) m n (by simpa using hl) (fun w hw=>hm w (List.mem_cons_of_mem _ hw)) h4 h5
       ·rw [if_pos e2] at h5;exact absurd h5 e2
      ·rw [if_pos e1] at h4;exact absurd h4 e1
  rw[mtF_eq] at h1 h2 ⊢
  by_cases hk:f.kind=g.kind∧f.ty=g.ty
  ·rw [if_pos hk] at h1
   by_cases hk2:g.kind=h.kind∧g.ty=h.ty
   ·rw [if_pos hk2] at h2
    rw[if_pos ⟨hk.1.trans hk2.1,hk.2.trans hk2.2⟩]
    obtain⟨l1,l2⟩:=same_lens hf hg hk.1
    by_cases ht:mtTs f.terms g.terms=0
    ·rw [if_neg (by simp[ht])] at h1
     by_cases ht2:mtTs g.terms h.terms=0
     ·rw [if_neg (by simp[ht2])] at h2
      rw[if_neg (by simp[mtTs_trans _ _ _ l1 ht ht2])]
      exact key f.args (fun x hx=>⟨fshape_args hf hx,fun g h hg=>ih x hx g h (fshape_args hf hx) hg⟩) g.args h.args l2 (fun y hy=>fshape_args hg hy) h1 h2
     ·rw [if_pos ht2] at h2;exact absurd h2 ht2
    ·rw [if_pos ht] at h1;exact absurd h1 ht
   ·rw [if_neg hk2] at h2;cases h2
  ·rw [if_neg hk] at h1;cases h1
theorem mtchF_zero{f g:Fm}(h:mtchF f g=0):f.err=0∧g.err=0∧mtF f g=0:=by
 unfold mtchF at h
 by_cases h1:f.err=0
 ·rw [if_neg (by simp[h1])] at h
  by_cases h2:g.err=0
  ·rw [if_neg (by simp[h2])] at h;exact⟨h1,h2,h⟩
  ·rw [if_pos h2] at h;exact absurd h h2
 ·rw [if_pos h1] at h;exact absurd h h1
theorem mtchF_of{f g:Fm}(h1:f.err=0)(h2:g.err=0)(h:mtF f g=0):mtchF f g=0:=by
 unfold mtchF
 rw[if_neg (by simp[h1]),if_neg (by simp[h2])];exact h
theorem mtchF_sym{f g:Fm}(h:mtchF f g=0):mtchF g f=0:=by
 obtain⟨h1,h2,h3⟩:=mtchF_zero h
 exact mtchF_of h2 h1 (mtF_sym f g h3)
theorem mtchF_trans{f g k:Fm}(h:mtchF f g=0)(h':mtchF g k=0):mtchF f k=0:=by
 obtain⟨h1,h2,h3⟩:=mtchF_zero h
 obtain⟨_,h4,h5⟩:=mtchF_zero h'
 exact mtchF_of h1 h4 (mtF_trans f g k ((Fm.err_iff f).1 h1).1 ((Fm.err_iff g).1 h2).1 h3 h5)
end Go.Ab
