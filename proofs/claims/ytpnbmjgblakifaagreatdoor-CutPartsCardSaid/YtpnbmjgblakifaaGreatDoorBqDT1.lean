/- A part of the proofs of this seat. No conditions. -/
import Derived.Test.YtpnbmjgblakifaaGreatDoorBCqDT1
namespace Go.Ab
open Go
set_option linter.all false
theorem QL(p r:Pf):vm (Cd p r)=false:=by
 have h:yp (Cd p r)=(3,p.kind):=S5 (p:=Cd p r) (show ¬((3:Int)=16\/(3:Int)=17) by decide) (show 0<2 by decide);unfold vm;rw[h];refine decide_eq_false fun hc=> ?_;simp[G2] at hc
theorem Yfh{p:Pf}(r:Pf)(h:p.nx.2.1=true):(Cd p r).nx=(Cd p.nx.1 r,true,p.nx.2.2):=by
 rw[Pf.CX,if_neg (by rw[QL];decide)];simp only[Cd,Pf.Ah,Pf.Ay,Pf.AL,Pf.Ai,Pf.Ar,Pf.Ad,Pf.Di,h,true_or,if_true]
theorem Yea{p r:Pf}(hd:p.direct=true)(h:r.nx.2.1=true):(Cd p r).nx=(Cd p r.nx.1,true,r.nx.2.2):=by
 rw[Pf.CX,if_neg (by rw[QL];decide)];have e:=RZ p hd;simp only[Cd,Pf.Ah,Pf.Ay,Pf.AL,Pf.Ai,Pf.Ar,Pf.Ad,Pf.Di,e,h,true_or,if_true];simp
theorem Zth{p r:Pf}(h1:p.direct=true)(h2:r.direct=true):(Cd p r).direct=true:=by
 rw[Pf.B9,if_neg (by rw[QL];decide)];simp[Cd,Pf.CQ,h1,h2]
theorem Tu:∀(j:Nat) (p r a:Pf) (n:Int) (K:Nat) (c:Int),p.err=0->y4 j p n=(a,n+j,0)->(y4 (K+j) (Cd p r) c).2.2=4\/y4 (K+j) (Cd p r) c=y4 K (Cd a r) (c+j)
 |0,p,r,a,n,K,c,he,h=>by
  unfold y4 at h;by_cases hd:p.direct=true
  ·rw[if_pos hd] at h;have ha:=(Prod.mk.inj h).1;subst ha;right;simp
  ·rw[if_neg hd] at h;have:=(Prod.mk.inj (Prod.mk.inj h).2).2;cases this
 |j+1,p,r,a,n,K,c,he,h=>by
  unfold y4 at h;by_cases h1:(yh p).2.2≠0
  ·rw[if_pos h1] at h;exact absurd (Prod.mk.inj (Prod.mk.inj h).2).2 h1
  rw[if_neg h1] at h;have h1':(yh p).2.2=0:=Decidable.not_not.1 h1;by_cases h2:(yh p).2.1=false
  ·rw[if_pos h2] at h;have:=(Prod.mk.inj (Prod.mk.inj h).2).1;omega
  rw[if_neg h2] at h;rw[Bool.not_eq_false] at h2;obtain⟨e0,e1,e2,e3⟩:=u6 h1';have hx:=Yfh r (e2▸h2);rw[e0,<-e1] at hx;show(y4 ((K+j)+1) (Cd p r) c).2.2=4\/y4 ((K+j)+1) (Cd p r) c=_;rw[Ll (K+j)];by_cases ht:(Cd (yh p).1 r).err≠0
  ·have hs:yh (Cd p r)=(Bc,false,4):=by unfold yh;rw[hx,if_pos (.inr ht)]
   rw[hs];exact .inl rfl
  ·have hs:yh (Cd p r)=(Cd (yh p).1 r,true,0):=by
    rw[yh,hx,if_neg (fun hc=>by rcases hc with hc|hc;exact hc rfl;exact ht hc)]
   rw[hs];simp only[ne_eq,not_true_eq_false,if_false,Bool.true_eq_false];have:=Tu j (yh p).1 r a (n+1) K (c+1) (by rw[e1];exact e3) (by rw[h];congr 2;omega);rw[show c+((j+1:Nat):Int)=c+1+j by omega];exact this
theorem V6{q:Pf}(hq:q.direct=true):∀(j:Nat) (p a:Pf) (n:Int) (K:Nat) (c:Int),p.err=0->y4 j p n=(a,n+j,0)->(y4 (K+j) (Cd q p) c).2.2=4\/y4 (K+j) (Cd q p) c=y4 K (Cd q a) (c+j)
 |0,p,a,n,K,c,he,h=>by
  unfold y4 at h;by_cases hd:p.direct=true
  ·rw[if_pos hd] at h;have ha:=(Prod.mk.inj h).1;subst ha;right;simp
  ·rw[if_neg hd] at h;have:=(Prod.mk.inj (Prod.mk.inj h).2).2;cases this
 |j+1,p,a,n,K,c,he,h=>by
  unfold y4 at h;by_cases h1:(yh p).2.2≠0
  ·rw[if_pos h1] at h;exact absurd (Prod.mk.inj (Prod.mk.inj h).2).2 h1
  rw[if_neg h1] at h;have h1':(yh p).2.2=0:=Decidable.not_not.1 h1;by_cases h2:(yh p).2.1=false
  ·rw[if_pos h2] at h;have:=(Prod.mk.inj (Prod.mk.inj h).2).1;omega
  rw[if_neg h2] at h;rw[Bool.not_eq_false] at h2;obtain⟨e0,e1,e2,e3⟩:=u6 h1';have hx:=Yea hq (e2▸h2);rw[e0,<-e1] at hx;show(y4 ((K+j)+1) (Cd q p) c).2.2=4\/y4 ((K+j)+1) (Cd q p) c=_;rw[Ll (K+j)];by_cases ht:(Cd q (yh p).1).err≠0
  ·have hs:yh (Cd q p)=(Bc,false,4):=by unfold yh;rw[hx,if_pos (.inr ht)]
   rw[hs];exact .inl rfl
  ·have hs:yh (Cd q p)=(Cd q (yh p).1,true,0):=by
    rw[yh,hx,if_neg (fun hc=>by rcases hc with hc|hc;exact hc rfl;exact ht hc)]
   rw[hs];simp only[ne_eq,not_true_eq_false,if_false,Bool.true_eq_false];have:=V6 hq j (yh p).1 a (n+1) K (c+1) (by rw[e1];exact e3) (by rw[h];congr 2;omega);rw[show c+((j+1:Nat):Int)=c+1+j by omega];exact this
theorem Zz3{p r a b:Pf}{m n:Int}(hp:p.err=0)(hr:r.err=0)(h1:y4 20 p 0=(a,m,0))(h2:y4 20 r 0=(b,n,0)):
 (y4 50 (Cd p r) 0).2.2=4\/y4 50 (Cd p r) 0=(Cd a b,m+n,0):=by
 obtain⟨d1,a1,m1,m2,w1⟩:=KF 20 p 0 a m hp h1;obtain⟨d2,b1,n1,n2,w2⟩:=KF 20 r 0 b n hr h2;have k1:=w1 m.toNat (by omega);have k2:=w2 n.toNat (by omega);have e1:=Tu m.toNat p r a 0 (50-m.toNat) 0 hp (by rw[k1];congr 2;omega);rw[show 50-m.toNat+m.toNat=50 by omega] at e1;rcases e1 with e1|e1
 ·exact .inl e1
 rw[e1];have e2:=V6 d1 n.toNat r b 0 (50-m.toNat-n.toNat) (0+(m.toNat:Int)) hr (by rw[k2];congr 2;omega);rw[show 50-m.toNat-n.toNat+n.toNat=50-m.toNat by omega] at e2;rcases e2 with e2|e2
 ·exact .inl e2
 rw[e2];have hd:=Zth d1 d2;have hk:∃k,50-m.toNat-n.toNat=k+1:=⟨50-m.toNat-n.toNat-1,by omega⟩;obtain⟨k,hk⟩:=hk;rw[hk,Ll];by_cases he:(Cd a b).err=0
 ·right;rw[PL hd he,if_neg (by simp),if_pos rfl,show(0:Int)+m.toNat+n.toNat=m+n by omega]
 ·left;have hs:yh (Cd a b)=(Bc,false,4):=by unfold yh;rw[RZ _ hd,if_pos (.inr he)]
  rw[hs];rfl
theorem Zuv{n m:Nat}{p r:Pf}(hp:Made n p)(hr:Made m r)(h0:(y7 p 20).2.2=0)(h1:(y7 r 20).2.2=0):
 (y7 (Cd p r) 50).2.2=4\/y7 (Cd p r) 50=(Cd (y7 p 20).1 (y7 r 20).1,(y7 p 20).2.1+(y7 r 20).2.1,0):=by
 have ht:Made (n+m+2) (Cd p r):=hp.two (k:=3) (by omega) hr;rcases vn ht (s:=50) (by omega) with⟨_,e⟩|⟨_,e⟩
 ·left;rw[e]
 rcases vn hp (s:=20) (by omega) with⟨_,e2⟩|⟨p0,e2⟩
 ·rw[e2] at h0;cases h0
 rcases vn hr (s:=20) (by omega) with⟨_,e3⟩|⟨r0,e3⟩
 ·rw[e3] at h1;cases h1
 rw[e,e2,e3];rw[e2] at h0;rw[e3] at h1;exact Zz3 p0 r0 (Prod.ext rfl (Prod.ext rfl h0)) (Prod.ext rfl (Prod.ext rfl h1))
end Go.Ab
