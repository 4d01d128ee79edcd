/- A part of the proofs of this seat's statements: D45, D46. It has no conditions of its own. -/
import Derived.Test.YtafjchcccnpjmaaGreatDoorXA1
import Derived.Test.YtafjchcccnpjmaaGreatDoorD1
namespace Go.Ab
set_option linter.all false
theorem dev_par{t u:Tm}(h:Par t u):Par u (dev t):=Classical.choose_spec (tri _ t (Nat.le_refl _)) u h
theorem dev_mono{t u:Tm}(h:Par t u):Par (dev t) (dev u):=dev_par (dev_par h)
theorem devN_mono:∀(n:Nat) {t u:Tm},Par t u→Par (devN n t) (devN n u)
 |0,_,_,h=>h
 |n+1,_,_,h=>devN_mono n (dev_mono h)
theorem devN_add:∀(n m:Nat) (t:Tm),devN (n+m) t=devN m (devN n t)
 |0,m,t=>by rw[Nat.zero_add];rfl
 |n+1,m,t=>by rw[show n+1+m=(n+m)+1 by omega];exact devN_add n m (dev t)
theorem pst_dev{t u:Tm}(h:Pst t u):∃n,Pst u (devN n t):=by
 induction h with
 |refl t=>exact⟨0,.refl _⟩
 |step h1 _ ih=>
  obtain⟨n,hn⟩:=ih
  exact⟨n+1,hn.trans (.one (devN_mono n (dev_par h1)))⟩
theorem nf_pst{t u:Tm}(ht:nf t)(h:Pst t u):u=t:=by
 induction h with
 |refl=>rfl
 |step h1 _ ih=>have:=ht _ h1;subst this;exact ih ht
theorem nf_dev{t:Tm}(h:nf t):∀n,devN n t=t
 |0=>rfl
 |n+1=>by
  have:dev t=t:=h _ (dev_par (.refl t))
  show devN n (dev t)=t
  rw[this];exact nf_dev h n
theorem nf_uniq{t u v:Tm}(hu:nf u)(hv:nf v)(h:Pst t u)(h':Pst t v):u=v:=by
 obtain⟨n,hn⟩:=pst_dev h
 obtain⟨m,hm⟩:=pst_dev h'
 have e1:=nf_pst hu hn
 have e2:=nf_pst hv hm
 rcases Nat.le_total n m with hnm|hnm
 ·have:=devN_add n (m-n) t
  rw[show n+(m-n)=m by omega,e1,e2,nf_dev hu] at this
  exact this.symm
 ·have:=devN_add m (n-m) t
  rw[show m+(n-m)=n by omega,e1,e2,nf_dev hv] at this
  exact this
theorem nrm_lim:∀(k:Nat) (t:Tm) (n:Nat),(nrm k t n).2.2=0∨(nrm k t n).2.2=4∨(nrm k t n).2.2=5
 |0,t,n=>by
  simp only[nrm]
  cases hx:nxR (4096-t.size) t with
  |none=>exact .inl rfl
  |some p=>exact .inr (.inr rfl)
 |k+1,t,n=>by
  simp only[nrm]
  cases hx:nxR (4096-t.size) t with
  |none=>exact .inl rfl
  |some p=>
   obtain⟨x,f⟩:=p
   cases f with
   |false=>exact .inr (.inl rfl)
   |true=>exact nrm_lim k x (n+1)
theorem mtch_pst{t u:Tm}{steps:Int}(h:Pst t u)(ht:t.err=0)(hu:u.err=0)(hn:t.near=true)(hm:u.near=true)(hs:0≤steps∧steps≤65536):
 mtchR t u steps=0∨mtchR t u steps=4∨mtchR t u steps=5:=by
 unfold mtchR
 rw[if_neg (by simp[ht]),if_neg (by simp[hu])]
 by_cases e:t=u
 ·rw [if_pos e];exact .inl rfl
 rw[if_neg e]
 have e1:normR t steps=nrm steps.toNat t 0:=by unfold normR;rw[if_neg (by simp[ht]),if_neg (by simp[hs,hn])]
 have e2:normR u steps=nrm steps.toNat u 0:=by unfold normR;rw[if_neg (by simp[hu]),if_neg (by simp[hs,hm])]
 rw[e1,e2]
 by_cases h1:(nrm steps.toNat t 0).2.2=0
 ·rw [if_neg (by simp[h1])]
  by_cases h2:(nrm steps.toNat u 0).2.2=0
  ·rw [if_neg (by simp[h2])]
   obtain⟨a1,a2,_⟩:=nrm_ok _ _ _ ht h1
   obtain⟨b1,b2,_⟩:=nrm_ok _ _ _ hu h2
   rw[if_pos (nf_uniq a2 b2 a1 (h.trans b1))]
   exact .inl rfl
  ·rw [if_pos h2]
   rcases nrm_lim steps.toNat u 0 with h|h|h
   ·exact absurd h h2
   ·exact .inr (.inl h)
   ·exact .inr (.inr h)
 ·rw [if_pos h1]
  rcases nrm_lim steps.toNat t 0 with h|h|h
  ·exact absurd h h1
  ·exact .inr (.inl h)
  ·exact .inr (.inr h)
end Go.Ab
