/- A part of the proofs of this seat. No conditions. -/
import Derived.Test.YtpnbmjgblakifaaGreatDoorBCqST2
import Derived.Test.YtpnbmjgblakifaaGreatDoorCqDT1
namespace Go.Ab
open Go Go.Proofs
set_option maxRecDepth 100000
set_option maxHeartbeats 4000000
set_option linter.all false
theorem Zwt(p:Pf)(hp:p.full<900000000):PC E 20 [.agg p.view] (.Az [.bool (decide (p.err=0)&&vm p),.i p.err]):=by
 have h1:=vj p (by omega);by_cases he:p.err=0
 ·have h2:=SR p (QE ((Pf.Ae p).1 he).1);rw[he] at h1 ⊢;generalize vm p=b at*;refine M.F Tryz.func20 ?_;(repeat' first|refine M.gw ?_|refine M.c2 (h1) ?_|refine M.c2 (h2) ?_|fail)
  rfl
 ·rw[decide_eq_false he,Bool.false_and];refine M.F Tryz.func20 ?_;(repeat' first|refine M.gw ?_|refine M.c2 (h1) ?_|refine M.cs ?_ ?_<;>intro h|fail);all_goals first
   |rfl
   |(exfalso;simp at h;exact he h)
   |trace_state
theorem Zvj(l:List Int)(a:Int)(ha:0<=a/\a<256):PC E 5 [.s .int l,.int .u8 a] (.bool true):=by
 have hsane:=Tz;have hfew:=SU l;by_cases hl:l.length<=500;case neg=>
  rw[decide_eq_false hl] at hfew;refine M.F Tryz.func5 ?_;(repeat' first|refine M.gw ?_|refine M.c2 (hsane) ?_|refine M.c2 (hfew) ?_|fail)
  rfl
 rw[decide_eq_true hl] at hfew;have hnew:=QX l;have hd:(Dk.mk l 0).ok:=⟨Nat.zero_le _,by simp only;omega⟩;obtain⟨d,hde⟩:∃d,d=Dk.mk l 0:=⟨_,rfl⟩;rw[<-hde] at hnew hd;have hlm:=O6 d hd;have hsq:=Sb d.lm.2 (Dk.Ej hd);have hd2:=Dk.Fq (Dk.Ej hd);have hc:=Sn d;have hg:=d.lm.2.BW;have hh:=d.lm.2.Ev;generalize d.lm.2.GF=d2 at*;generalize d.lm.2.FO=hyps at*;generalize d.lm.2.ctx.1=tys at*;generalize d.lm.1=lems at*;generalize d.lm.2=d1 at*;obtain⟨p,d3,hp,ok3,hA⟩:=Pr lems tys hyps hc (by omega) hg d2 hd2;have fp:=hp.full;have ep:=SH hp (s:=30) (by omega);have hce:=fun h=>Zzl hp h (k:=a) (by omega);have b1:=MK p 30 (by omega) (by omega);have b2:=fun s (hs: -9223372036854775808<=s/\s<=9223372036854775807)=>MK p s (by omega) hs;by_cases he:(y7 p 30).2.2=0
 ·obtain ⟨n0,n1,e1,e2,e3,e4⟩:=hce he;have b2:=b2 ((y7 p 30).2.1+a) (by omega);rw[e1] at b2;have ga:=ur e2;have b3:=WL (y7 p 30).1 (by omega);rw[e3] at b3;have b4:=Zwt (y7 p 30).1 (by omega);rw[e4,e2] at b4;have s1:=K2 _ (y7 p 30).1 (Nat.le_refl _) (by omega);clear hce e1 e3 e4;generalize y7 p 30=P at*;obtain⟨x,n,e⟩:=P;simp only at*;subst he;have hw:IntKind.i64.wrap (n+a)=n+a:=IntWalk.i64_in _ (by omega);refine M.F Tryz.func5 ?_;(repeat' first|refine M.gw ?_|refine M.c2 (hsane) ?_|refine M.c2 (hfew) ?_|refine M.cb (hnew) [] 1 ?_|refine M.cb (hlm) [0] 0 ?_|refine M.cb (hsq) [0] 0 ?_|refine M.cb (hA) [0] 0 ?_|refine M.c2 (b1) ?_|refine M.c2 (b2) ?_|refine M.c2 (b3) ?_|refine M.c2 (b4) ?_|refine M.c2 (s1) ?_|refine M.gs ?_ ?_<;>intro h|fail);all_goals first
   |rfl
   |(exfalso;simp at h;done)
   |(simp;done)
   |trace_state
 ·clear hce b2;generalize y7 p 30=P at*;obtain⟨x,n,e⟩:=P;simp only at ep b1 he;rcases ep with rfl|rfl|rfl
  ·exact absurd rfl he
  all_goals
   refine M.F Tryz.func5 ?_;(repeat' first|refine M.gw ?_|refine M.c2 (hsane) ?_|refine M.c2 (hfew) ?_|refine M.cb (hnew) [] 1 ?_|refine M.cb (hlm) [0] 0 ?_|refine M.cb (hsq) [0] 0 ?_|refine M.cb (hA) [0] 0 ?_|refine M.c2 (b1) ?_|fail)
   rfl
end Go.Ab
