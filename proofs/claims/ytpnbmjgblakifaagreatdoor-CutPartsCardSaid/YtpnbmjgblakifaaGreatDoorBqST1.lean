/- A part of the proofs of this seat. No conditions. -/
import Derived.Test.YtpnbmjgblakifaaGreatDoorBCqST2
import Derived.Test.YtpnbmjgblakifaaGreatDoorBqDT1
namespace Go.Ab
open Go Go.Proofs
set_option maxRecDepth 100000
set_option maxHeartbeats 4000000
set_option linter.all false
theorem Zs5(l:List Int):PC E 3 [.s .int l] (.bool true):=by
 have hsane:=Tz;have hfew:=SU l;by_cases hl:l.length<=500;case neg=>
  rw[decide_eq_false hl] at hfew;refine M.F Tryz.func3 ?_;(repeat' first|refine M.gw ?_|refine M.c2 (hsane) ?_|refine M.c2 (hfew) ?_|fail)
  rfl
 rw[decide_eq_true hl] at hfew;have hnew:=QX l;have hd:(Dk.mk l 0).ok:=⟨Nat.zero_le _,by simp only;omega⟩;obtain⟨d,hde⟩:∃d,d=Dk.mk l 0:=⟨_,rfl⟩;rw[<-hde] at hnew hd;have hlm:=O6 d hd;have hsq:=Sb d.lm.2 (Dk.Ej hd);have hd2:=Dk.Fq (Dk.Ej hd);have hc:=Sn d;have hg:=d.lm.2.BW;have hh:=d.lm.2.Ev;generalize d.lm.2.GF=d2 at*;generalize d.lm.2.FO=hyps at*;generalize d.lm.2.ctx.1=tys at*;generalize d.lm.1=lems at*;generalize d.lm.2=d1 at*;obtain⟨p,d3,hp,ok3,hA⟩:=Pr lems tys hyps hc (by omega) hg d2 hd2;obtain⟨r,d4,hr,ok4,hB⟩:=Pr lems tys hyps hc (by omega) hg d3 ok3;have fp:=hp.full;have fr:=hr.full;have ep:=SH hp (s:=20) (by omega);have er:=SH hr (s:=20) (by omega);have hcp:=Zuv hp hr;have b1:=MK p 20 (by omega) (by omega);have b2:=MK r 20 (by omega) (by omega);have ht:Made (400000000+400000000+2) (Cd p r):=hp.two (k:=3) (by omega) hr;have ft:=ht.full;have b3:=MK (Cd p r) 50 (by omega) (by omega);have q1:=w8 3 [p,r] (by simp) (by intro x hx;simp only[List.mem_cons,List.not_mem_nil,or_false] at hx;rcases hx with rfl|rfl<;>omega);have ea:= @vn _ _ hp 20 (by omega);have eb:= @vn _ _ hr 20 (by omega);have fa:(y7 p 20).2.2=0->(y7 p 20).1.err=0/\0<=(y7 p 20).2.1/\(y7 p 20).2.1<=20:=fun h=>by
  rcases ea with⟨_,e⟩|⟨p0,e⟩
  ·rw[e] at h;cases h
  ·rw[e] at h ⊢;have w:=KF 20 p 0 _ _ p0 (Prod.ext rfl (Prod.ext rfl h));exact⟨w.2.1,w.2.2.1,by have:=w.2.2.2.1;simpa using this⟩
 have fb:(y7 r 20).2.2=0->(y7 r 20).1.err=0/\0<=(y7 r 20).2.1/\(y7 r 20).2.1<=20:=fun h=>by
  rcases eb with⟨_,e⟩|⟨p0,e⟩
  ·rw[e] at h;cases h
  ·rw[e] at h ⊢;have w:=KF 20 r 0 _ _ p0 (Prod.ext rfl (Prod.ext rfl h));exact⟨w.2.1,w.2.2.1,by have:=w.2.2.2.1;simpa using this⟩
 clear ea eb;generalize y7 p 20=P at*;generalize y7 r 20=R at*;generalize y7 (Cd p r) 50=T at*;obtain⟨a,m,e⟩:=P;obtain⟨b,n,f⟩:=R;obtain⟨c,k,g⟩:=T;simp only at ep er hcp b1 b2 b3 fa fb;unfold Cd at b3;by_cases he:e=0/\f=0
 ·obtain ⟨rfl,rfl⟩:=he;obtain⟨fa1,fa2,fa3⟩:=fa rfl;obtain⟨fb1,fb2,fb3⟩:=fb rfl;have ga:=ur fa1;have gb:=ur fb1;have q2:=w8 3 [a,b] (by simp) (by intro x hx;simp only[List.mem_cons,List.not_mem_nil,or_false] at hx;rcases hx with rfl|rfl<;>omega);have s1:=K2 _ (Cd a b) (Nat.le_refl _) (by rw[Pf.Ag];simp[Cd,Ty.size,Ty.sizes];omega);have z0:=GP 0;have z1:=vo (xn 0) (by decide);rw[show(xn 0).err=0 by decide] at z1;rcases hcp rfl rfl with rfl|hT
  ·refine M.F Tryz.func3 ?_;(repeat' first|refine M.gw ?_|refine M.c2 (hsane) ?_|refine M.c2 (hfew) ?_|refine M.cb (hnew) [] 1 ?_|refine M.cb (hlm) [0] 0 ?_|refine M.cb (hsq) [0] 0 ?_|refine M.cb (hA) [0] 0 ?_|refine M.cb (hB) [0] 0 ?_|refine M.c2 (b1) ?_|refine M.c2 (b2) ?_|refine M.c2 (q1) ?_|refine M.c2 (b3) ?_|fail)
   rfl
  ·obtain ⟨rfl,rfl,rfl⟩:c=Cd a b/\k=m+n/\g=0:=⟨congrArg (·.1) hT,congrArg (·.2.1) hT,congrArg (·.2.2) hT⟩;unfold Cd at b3 s1;generalize xn 0=N at*;refine M.F Tryz.func3 ?_;(repeat' first|refine M.gw ?_|refine M.c2 (hsane) ?_|refine M.c2 (hfew) ?_|refine M.cb (hnew) [] 1 ?_|refine M.cb (hlm) [0] 0 ?_|refine M.cb (hsq) [0] 0 ?_|refine M.cb (hA) [0] 0 ?_|refine M.cb (hB) [0] 0 ?_|refine M.c2 (b1) ?_|refine M.c2 (b2) ?_|refine M.c2 (q1) ?_|refine M.c2 (b3) ?_|refine M.c2 (q2) ?_|refine M.c2 (s1) ?_|refine M.c2 (z0) ?_|refine M.c2 (z1) ?_|refine M.gs ?_ ?_<;>intro h|fail);all_goals first
    |rfl
    |(exfalso;simp at h;done)
    |(simp[zj,V.wk];done)
    |trace_state
 ·clear hcp fa fb;rcases ep with rfl|rfl|rfl<;>rcases er with rfl|rfl|rfl
  ·exact absurd ⟨rfl,rfl⟩ he
  all_goals
   refine M.F Tryz.func3 ?_;(repeat' first|refine M.gw ?_|refine M.c2 (hsane) ?_|refine M.c2 (hfew) ?_|refine M.cb (hnew) [] 1 ?_|refine M.cb (hlm) [0] 0 ?_|refine M.cb (hsq) [0] 0 ?_|refine M.cb (hA) [0] 0 ?_|refine M.cb (hB) [0] 0 ?_|refine M.c2 (b1) ?_|refine M.c2 (b2) ?_|fail)
   rfl
end Go.Ab
