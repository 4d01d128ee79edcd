/- A part of the proofs of this seat. No conditions. -/
import Derived.Test.YtjgokiomgcfclaaGreatDoorEST1
namespace Go.Ab
open Go Go.Proofs
set_option maxRecDepth 100000
set_option maxHeartbeats 4000000
set_option linter.all false
section
variable {c:Ck} (hc:c.ok) {p q:Pf} {r0 r1:Rs}
include hc
theorem Wb{k:Int}(hk:k=11\/k=15){f0 f1:Fm}{u0 u1:List Int}{e0 e1:Int}(hr0:r0 c=(f0,u0,e0))(hr1:Gz r1 c f0=(f1,u1,e1))
 (hp:PC E 45 [.agg c.view,.agg p.view] (Di f0 u0 e0)) (o0:E2 c (f0,u0,e0))
 (hq:((c.below [f0.ty]).Au (f0.args.getD 0 Az)).ok->PC E 45 [.agg ((c.below [f0.ty]).Au (f0.args.getD 0 Az)).view,.agg q.view] (Di f1 u1 e1))
 (o1:((c.below [f0.ty]).Au (f0.args.getD 0 Az)).ok->E2 ((c.below [f0.ty]).Au (f0.args.getD 0 Az)) (f1,u1,e1)):
 PC E 153 [.agg c.view,.agg (Pf.mk k 0 (.mk 0 []) [] [] [p,q]).view] (B1 (K3 k r0 r1 c)):=by
 have hl:=hc.len;have hn:=hc.nh;have b0:=FX hc o0;unfold K3;rw[hr0];simp only[hr1];by_cases he:e0=0;case neg=>
  rw[if_pos he];refine M.F Tryz.func153 ?_;(repeat' first|refine M.go ?_|refine M.c2 (hp) ?_|refine M.z1 4 ?_|refine M.cs ?_ ?_<;>intro h|refine M.gk ?_|fail);all_goals first
   |rfl
   |(exfalso;simp at h;exact he h)
   |trace_state
 subst he;rw[if_neg (by simp)];have ho:=o0.1 rfl;have s0:=(Fm.Ad _).1 ho.1;by_cases hkd:f0.kind=kI k 15 7 5;case neg=>
  rw[if_pos hkd];rcases hk with rfl|rfl;all_goals
   refine M.F Tryz.func153 ?_;(repeat' first|refine M.go ?_|refine M.c2 (hp) ?_|refine M.z1 9 ?_|refine M.cs ?_ ?_<;>intro h|refine M.gk ?_|fail);all_goals first
    |rfl
    |(exfalso;simp at h;exact hkd h)
    |trace_state
 rw[if_neg (by simp[hkd])];have hkk:4<=f0.kind/\f0.kind<=7:=by rw[hkd,kI];split<;>omega
 obtain⟨x,e⟩:=GV s0.1 hkk;have hx:f0.args.getD 0 Az=x:=by simp only at e;rw[e];rfl
 have hte:=HI s0.1 hkk;have ex:=vw ho.1 (x:=x) (by simp only at e;rw[show(f0,u0,(0:Int)).1=f0 from rfl,e];simp[Be]);have ok0:=ho.2.1;simp only at e hte ok0;rw[e] at ok0;have o1':=I0 hkk ok0;rw[hx] at hq o1;clear ok0 hr1 hr0 s0 hx;generalize f0.ty=s at*;rw[hkd] at e;subst e;have h1:=Ku c 1 1 (by omega) (by omega);by_cases hr:c.room 1 1=0;case neg=>
  rw[if_pos hr];rw[KY hr] at h1;rcases hk with rfl|rfl;all_goals
   simp only[kI] at*;refine M.F Tryz.func153 ?_;(repeat' first|refine M.gw ?_|refine M.c2 (hp) ?_|refine M.c2 (h1) ?_|fail);all_goals first
    |rfl
    |trace_state
 rw[if_neg (by simp[hr])];have hro:=ww hr;rw[hr] at h1;have hb:((c.below [s]).Au x).ok:=(hc.below (l:=[s]) hro.1 (by simpa using hte)).Au (by simpa[Ck.below] using hro.2) ex o1';have h2:=M3 c hc [s] (by simp) (by simp);have h3:=M5 (c.below [s]) x (by simp[Ck.below];omega);have h4:=hq hb;have o1b:=o1 hb;have b1:=FX hb o1b;by_cases he1:e1=0;case neg=>
  rw[if_pos he1];rcases hk with rfl|rfl;all_goals
   simp only[kI] at*;refine M.F Tryz.func153 ?_;(repeat' first|refine M.go ?_|refine M.c2 (hp) ?_|refine M.c2 (h1) ?_|refine M.c2 (h2) ?_|refine M.c2 (h3) ?_|refine M.c2 (h4) ?_|refine M.z1 15 ?_|refine M.cs ?_ ?_<;>intro h|refine M.gk ?_|fail);all_goals first
    |rfl
    |(exfalso;simp at h;exact he1 h)
    |trace_state
 subst he1;rw[if_neg (by simp)];have hf1:=o1b.1 rfl;simp only at hf1;have s1:=(Fm.Ad _).1 hf1.1;have h5:=VJ _ f1 0 (Nat.le_refl _) (by omega) (by omega) (by omega) s1.1;have hu:=UY u1;have hou:=Ns u1 1 (by omega) (by omega) b1.2.2;have hol:=MM u1 1;have hun:=Hr u0 (Ds u1 1) (by omega) (by omega);have h6:=Zt6 _ f1 (Nat.le_refl _) (by omega);by_cases t0:y9 0 f1=0;case pos=>
  have ef:Eb f1=(f1,0):=by unfold Eb;rw[if_pos t0]
  rw[ef];rw[decide_eq_false (by simp[t0])] at h5;have h7:=h6;have hup:=Fg (hf1.2.1) s1.1 (by omega) (by simp[Ck.below,Ck.Au];omega) 1 (-1) (by omega) (by omega);rw[if_neg (by simp)];rcases hk with rfl|rfl
  ·rw[if_neg (by simp)];simp only[kI] at*;refine M.F Tryz.func153 ?_;(repeat' first|refine M.gw ?_|refine M.c2 (hp) ?_|refine M.c2 (h1) ?_|refine M.c2 (h2) ?_|refine M.c2 (h3) ?_|refine M.c2 (h4) ?_|refine M.c2 (h5) ?_|refine M.c2 (hup) ?_|refine M.c2 (hou) ?_|refine M.c2 (hun) ?_|fail);all_goals first
    |rfl
    |trace_state
  ·simp only[kI] at*;cases hh:Jy u1 with
   |true=>
    rw[hh] at hu;rw[if_pos (by simp)];refine M.F Tryz.func153 ?_;(repeat' first|refine M.gw ?_|refine M.c2 (hp) ?_|refine M.c2 (h1) ?_|refine M.c2 (h2) ?_|refine M.c2 (h3) ?_|refine M.c2 (h4) ?_|refine M.c2 (h5) ?_|refine M.c2 (hu) ?_|fail);all_goals first
     |rfl
     |trace_state
   |false=>
    rw[hh] at hu;rw[if_neg (by simp)];refine M.F Tryz.func153 ?_;(repeat' first|refine M.gw ?_|refine M.c2 (hp) ?_|refine M.c2 (h1) ?_|refine M.c2 (h2) ?_|refine M.c2 (h3) ?_|refine M.c2 (h4) ?_|refine M.c2 (h5) ?_|refine M.c2 (hu) ?_|refine M.c2 (hup) ?_|refine M.c2 (hou) ?_|refine M.c2 (hun) ?_|fail);all_goals first
     |rfl
     |trace_state
 rw[decide_eq_true t0] at h5;by_cases n0:(x7 f1).2=0;case neg=>
  have ef:Eb f1=(Az,(x7 f1).2):=by unfold Eb;rw[if_neg t0,if_pos n0]
  rw[ef,if_pos n0];rcases hk with rfl|rfl;all_goals
   simp only[kI] at*;refine M.F Tryz.func153 ?_;(repeat' first|refine M.go ?_|refine M.c2 (hp) ?_|refine M.c2 (h1) ?_|refine M.c2 (h2) ?_|refine M.c2 (h3) ?_|refine M.c2 (h4) ?_|refine M.c2 (h5) ?_|refine M.c2 (h6) ?_|refine M.z1 20 ?_|refine M.cs ?_ ?_<;>intro h|refine M.gk ?_|fail);all_goals first
    |rfl
    |(exfalso;simp at h;exact n0 h)
    |trace_state
 rw[n0] at h6;obtain⟨nk,ns,nz,no⟩:=S9 f1 n0 s1.1;have nfl:=HN (x7 f1).1 ns;have h7:=VJ _ (x7 f1).1 0 (Nat.le_refl _) (by omega) (by omega) (by omega) ns;by_cases n1:y9 0 (x7 f1).1=0;case neg=>
  have ef:Eb f1=(Az,6):=by unfold Eb;rw[if_neg t0,if_neg (by simp[n0]),if_pos n1]
  rw[ef,if_pos (by decide)];rw[decide_eq_true n1] at h7;rcases hk with rfl|rfl;all_goals
   simp only[kI] at*;refine M.F Tryz.func153 ?_;(repeat' first|refine M.gw ?_|refine M.c2 (hp) ?_|refine M.c2 (h1) ?_|refine M.c2 (h2) ?_|refine M.c2 (h3) ?_|refine M.c2 (h4) ?_|refine M.c2 (h5) ?_|refine M.c2 (h6) ?_|refine M.c2 (h7) ?_|fail);all_goals first
    |rfl
    |trace_state
 case pos=>
  have ef:Eb f1=((x7 f1).1,0):=by unfold Eb;rw[if_neg t0,if_neg (by simp[n0]),if_neg (by simp[n1])]
  rw[ef];rw[decide_eq_false (by simp[n1])] at h7;have hup:=Fg (no _ hf1.2.1) ns (by omega) (by simp[Ck.below,Ck.Au];omega) 1 (-1) (by omega) (by omega);rw[if_neg (by simp)];rcases hk with rfl|rfl
  ·rw[if_neg (by simp)];simp only[kI] at*;refine M.F Tryz.func153 ?_;(repeat' first|refine M.gw ?_|refine M.c2 (hp) ?_|refine M.c2 (h1) ?_|refine M.c2 (h2) ?_|refine M.c2 (h3) ?_|refine M.c2 (h4) ?_|refine M.c2 (h5) ?_|refine M.c2 (h6) ?_|refine M.c2 (h7) ?_|refine M.c2 (hup) ?_|refine M.c2 (hou) ?_|refine M.c2 (hun) ?_|fail);all_goals first
    |rfl
    |trace_state
  ·simp only[kI] at*;cases hh:Jy u1 with
   |true=>
    rw[hh] at hu;rw[if_pos (by simp)];refine M.F Tryz.func153 ?_;(repeat' first|refine M.gw ?_|refine M.c2 (hp) ?_|refine M.c2 (h1) ?_|refine M.c2 (h2) ?_|refine M.c2 (h3) ?_|refine M.c2 (h4) ?_|refine M.c2 (h5) ?_|refine M.c2 (h6) ?_|refine M.c2 (h7) ?_|refine M.c2 (hu) ?_|fail);all_goals first
     |rfl
     |trace_state
   |false=>
    rw[hh] at hu;rw[if_neg (by simp)];refine M.F Tryz.func153 ?_;(repeat' first|refine M.gw ?_|refine M.c2 (hp) ?_|refine M.c2 (h1) ?_|refine M.c2 (h2) ?_|refine M.c2 (h3) ?_|refine M.c2 (h4) ?_|refine M.c2 (h5) ?_|refine M.c2 (h6) ?_|refine M.c2 (h7) ?_|refine M.c2 (hu) ?_|refine M.c2 (hup) ?_|refine M.c2 (hou) ?_|refine M.c2 (hun) ?_|fail);all_goals first
     |rfl
     |trace_state
end
section
variable {c:Ck} (hc:c.ok) {p q:Pf} {r0 r1:Rs}
include hc
theorem Zz4{f:Fm}{f0:Fm}{u0:List Int}{e0:Int}(hr0:r0 c=(f0,u0,e0))(hf:f.full<=300000)
 (hp:PC E 45 [.agg c.view,.agg p.view] (Di f0 u0 e0)) (o0:E2 c (f0,u0,e0))
 (hpb:∀t:Tm,t.full<=300000->PC E 221 [.agg c.view,.agg q.view,.agg f.view,.agg t.view] (.Ax [.s .int (y6 r1 c f t).1,.i (y6 r1 c f t).2])):
 PC E 157 [.agg c.view,.agg (Pf.mk 19 0 (.mk 0 []) [] [f] [p,q]).view] (B1 (Ma f r0 r1 c)):=by
 have hl:=hc.len;have hsum:=hc.sum;have h1:=NF (c.tys++[Aa]) f (by omega) (hc.one Hh) (by simp;omega);have h5:=vz;unfold Ma;rw[hr0];by_cases t0:w4 (c.tys++[Aa]) f=0;case neg=>
  rw[if_pos t0];refine M.F Tryz.func157 ?_;(repeat' first|refine M.go ?_|refine M.c2 (h5) ?_|refine M.c2 (h1) ?_|refine M.z1 5 ?_|refine M.cs ?_ ?_<;>intro h|refine M.gk ?_|fail);all_goals first
   |rfl
   |(exfalso;simp at h;exact t0 h)
   |trace_state
 rw[if_neg (by simp[t0])];rw[t0] at h1;by_cases he:e0=0;case neg=>
  rw[if_pos he];refine M.F Tryz.func157 ?_;(repeat' first|refine M.go ?_|refine M.c2 (h5) ?_|refine M.c2 (h1) ?_|refine M.c2 (hp) ?_|refine M.z1 8 ?_|refine M.cs ?_ ?_<;>intro h|refine M.gk ?_|fail);all_goals first
   |rfl
   |(exfalso;simp at h;exact he h)
   |trace_state
 subst he;rw[if_neg (by simp)];by_cases hk:f0.kind=1;case neg=>
  rw[if_pos hk];refine M.F Tryz.func157 ?_;(repeat' first|refine M.go ?_|refine M.c2 (h5) ?_|refine M.c2 (h1) ?_|refine M.c2 (hp) ?_|refine M.z1 10 ?_|refine M.cs ?_ ?_<;>intro h|refine M.gk ?_|fail);all_goals first
   |rfl
   |(exfalso;simp at h;exact hk h)
   |trace_state
 rw[if_neg (by simp[hk])];have ho:=o0.1 rfl;obtain⟨x,y,e⟩:=Rz ((Fm.Ad _).1 ho.1).1 hk;simp only at e;subst e;have ex:=Uf ho.1 (t:=x) (by simp[AM]);have ey:=Uf ho.1 (t:=y) (by simp[AM]);have h2:=hpb x (by have:=yl ex;omega);have h3:=Jx f y (by omega) (by have:=yl ey;omega);have e1:((AM x y).terms.getD 0 va)=x:=rfl;have e2:((AM x y).terms.getD 1 va)=y:=rfl;simp only[e1,e2];generalize y6 r1 c f x=a at*;by_cases ea:a.2=0;case neg=>
  rw[if_pos ea];refine M.F Tryz.func157 ?_;(repeat' first|refine M.go ?_|refine M.c2 (h5) ?_|refine M.c2 (h1) ?_|refine M.c2 (hp) ?_|refine M.c2 (h2) ?_|refine M.z1 13 ?_|refine M.cs ?_ ?_<;>intro h|refine M.gk ?_|fail);all_goals first
   |rfl
   |(exfalso;simp at h;exact ea h)
   |trace_state
 rw[if_neg (by simp[ea])];rw[ea] at h2;refine M.F Tryz.func157 ?_;(repeat' first|refine M.gw ?_|refine M.c2 (h5) ?_|refine M.c2 (h1) ?_|refine M.c2 (hp) ?_|refine M.c2 (h2) ?_|refine M.c2 (h3) ?_|fail);all_goals first
  |rfl
  |trace_state
theorem Ztj{f0:Fm}{u0:List Int}{e0:Int}(hr0:r0 c=(f0,u0,e0))
 (hp:PC E 45 [.agg c.view,.agg p.view] (Di f0 u0 e0)) (o0:E2 c (f0,u0,e0)):
 PC E 158 [.agg c.view,.agg (Pf.mk 20 0 (.mk 0 []) [] [] [p]).view] (B1 (LW r0 c)):=by
 have hl:=hc.len;unfold LW;rw[hr0];by_cases he:e0=0;case neg=>
  rw[if_pos he];refine M.F Tryz.func158 ?_;(repeat' first|refine M.go ?_|refine M.c2 (hp) ?_|refine M.z1 4 ?_|refine M.cs ?_ ?_<;>intro h|refine M.gk ?_|fail);all_goals first
   |rfl
   |(exfalso;simp at h;exact he h)
   |trace_state
 subst he;rw[if_neg (by simp)];have ho:=o0.1 rfl;have s0:=(Fm.Ad _).1 ho.1;by_cases hk:f0.kind=4;case neg=>
  rw[if_pos (.inl hk)];refine M.F Tryz.func158 ?_;(repeat' first|refine M.go ?_|refine M.c2 (hp) ?_|refine M.gs ?_ ?_<;>intro h|refine M.z1 6 ?_|refine M.cs ?_ ?_<;>intro h|refine M.gk ?_|fail);all_goals first
   |rfl
   |(exfalso;simp at h;exact hk h)
   |(exfalso;rename_i h1;simp at h1;exact hk h1)
   |trace_state
 obtain⟨x,e⟩:=GV s0.1 (by simp only;omega);have hte:=HI s0.1 (by simp only;omega);simp only at e hte;have ex:=vw ho.1 (x:=x) (by rw[show(f0,u0,(0:Int)).1=f0 from rfl,e];simp[Be]);have sx:=(Fm.Ad _).1 ex;have ok0:=ho.2.1;simp only at ok0;generalize f0.ty=s at*;rw[hk] at e;subst e;have e1:((Be 4 s x).args.getD 0 Az)=x:=rfl;have o1:=I0 (by omega) ok0;by_cases hk2:x.kind=5;case neg=>
  rw[if_pos (.inr (by rw[e1];exact hk2))];refine M.F Tryz.func158 ?_;(repeat' first|refine M.go ?_|refine M.c2 (hp) ?_|refine M.z1 6 ?_|refine M.cs ?_ ?_<;>intro h|refine M.gk ?_|fail);all_goals first
   |rfl
   |(exfalso;simp at h;exact hk2 h)
   |trace_state
 rw[if_neg (by rintro(h|h);exact h hk;exact h (by rw[e1];exact hk2))];obtain⟨y,e⟩:=GV sx.1 (by omega);have hte2:=HI sx.1 (by omega);have ey:=vw ex (x:=y) (by rw[e];simp[Be]);have sy:=(Fm.Ad _).1 ey;generalize x.ty=u at*;rw[hk2] at e;subst e;have o2:=I0 (by omega) o1;have zs:=((Ty.Ad s).1 hte).2;have zu:=((Ty.Ad u).1 hte2).2;have h1:=Jh s u (by omega) (by omega);have h2:=J4 (yo s u) (by simp only[yo,Ty.size,Ty.sizes];omega);have e2:Kt (Be 4 s (Be 5 u y))=yo s u:=rfl;have e3:L3 (Be 4 s (Be 5 u y))=CP (y.A4 2 1) Eo:=rfl;simp only[e2,e3];by_cases ef:(yo s u).err=0;case neg=>
  rw[if_pos ef];refine M.F Tryz.func158 ?_;(repeat' first|refine M.go ?_|refine M.c2 (hp) ?_|refine M.c2 (h1) ?_|refine M.c2 (h2) ?_|refine M.z1 10 ?_|refine M.cs ?_ ?_<;>intro h|refine M.gk ?_|fail);all_goals first
   |rfl
   |(exfalso;simp at h;exact ef h)
   |trace_state
 rw[if_neg (by simp[ef])];rw[ef] at h2;have h3:=Fg o2 sy.1 (by omega) (by simp;omega) 2 1 (by omega) (by omega);have h4:=DI 1;have h4':=DI 0;have h5:=Co 3 [vT 1,vT 0] (by simp[vT,Tm.full,Tm.Ap,Ty.size,Ty.sizes]);have hlf:=Lw sy.1 (fr:=2) (by_:=1) (by omega);have h6:=Jx (y.A4 2 1) Eo (by rw[hlf.2.2];have:=z9 ey;omega) (by decide);have hb:=Uc (y.A4 2 1) Eo;have h7:=Fy 4 s (CP (y.A4 2 1) Eo).1 (by omega) (by omega);have h8:=Fy 5 (yo s u) (.mk 4 s [] [(CP (y.A4 2 1) Eo).1]) (by simp only[yo,Ty.size,Ty.sizes];omega) (by simp only[Fm.full,Fm.Ap,List.map_nil,List.sum_nil];omega);refine M.F Tryz.func158 ?_;(repeat' first|refine M.gw ?_|refine M.c2 (hp) ?_|refine M.c2 (h1) ?_|refine M.c2 (h2) ?_|refine M.c2 (h3) ?_|refine M.c2 (h4) ?_|refine M.c2 (h4') ?_|refine M.c2 (h5) ?_|refine M.c2 (h6) ?_|refine M.c2 (h7) ?_|refine M.c2 (h8) ?_|fail);all_goals first
  |rfl
  |trace_state
end
section
variable {c:Ck} (hc:c.ok) {p q:Pf} {r0 r1:Rs}
include hc
theorem Yen{f:Fm}{t:Tm}(hf:f.full<=300000)(ht:t.full<=300000)
 (hpa:PC E 221 [.agg c.view,.agg p.view,.agg f.view,.agg CK.view] (.Ax [.s .int (y6 r0 c f CK).1,.i (y6 r0 c f CK).2]))
 (hpb:((c.below [Aa,Ah]).Au (f.A4 1 1)).ok->PC E 221 [.agg ((c.below [Aa,Ah]).Au (f.A4 1 1)).view,.agg q.view,.agg (f.A4 1 2).view,.agg BQ.view] (.Ax [.s .int (y6 r1 ((c.below [Aa,Ah]).Au (f.A4 1 1)) (f.A4 1 2) BQ).1,.i (y6 r1 ((c.below [Aa,Ah]).Au (f.A4 1 1)) (f.A4 1 2) BQ).2]))
 (hua:A3 c.tys.length (y6 r0 c f CK).1) (hub:((c.below [Aa,Ah]).Au (f.A4 1 1)).ok->A3 (c.tys.length+2) (y6 r1 ((c.below [Aa,Ah]).Au (f.A4 1 1)) (f.A4 1 2) BQ).1):
 PC E 155 [.agg c.view,.agg (Pf.mk 17 0 (.mk 0 []) [t] [f] [p,q]).view] (B1 (Lj f t r0 r1 c)):=by
 have hl:=hc.len;have hn:=hc.nh;have hsum:=hc.sum;have hul:=hua.len;have h1:=NF (c.tys++[Ah]) f (by omega) (hc.one KF) (by simp;omega);have h2:=PS c t 2 (by omega) (by omega);have h3:=Co 7 [] (by simp);have h4:=Ku c 2 1 (by omega) (by omega);have h5:=vz;have h6:=M3 c hc [Aa,Ah] (by simp) (by simp);have h7:=M5 (c.below [Aa,Ah]) (f.A4 1 1) (by simp[Ck.below];omega);have h9:=DI 0;have h9':=DI 1;have h5':=uz;have h10:=Co 8 [vT 1,vT 0] (by simp[vT,Tm.full,Tm.Ap,Ty.size,Ty.sizes]);have h11:=Jx f t (by omega) (by omega);unfold Lj;generalize hA:y6 r0 c f CK=a at*;generalize hB:y6 r1 ((c.below [Aa,Ah]).Au (f.A4 1 1)) (f.A4 1 2) BQ=b at*;by_cases e0:w4 (c.tys++[Ah]) f=0;case neg=>
  rw[if_pos e0];refine M.F Tryz.func155 ?_;(repeat' first|refine M.go ?_|refine M.c2 (h5') ?_|refine M.c2 (h1) ?_|refine M.z1 5 ?_|refine M.cs ?_ ?_<;>intro h|refine M.gk ?_|fail);all_goals first
   |rfl
   |(exfalso;simp at h;exact e0 h)
   |trace_state
 rw[if_neg (by simp[e0])];rw[e0] at h1;obtain⟨f1,f2⟩:=JG (hc.one KF) e0;have s0:=(Fm.Ad _).1 f1;by_cases e1:Ey c t 2=0;case neg=>
  rw[if_pos e1];refine M.F Tryz.func155 ?_;(repeat' first|refine M.go ?_|refine M.c2 (h5') ?_|refine M.c2 (h1) ?_|refine M.c2 (h2) ?_|refine M.z1 8 ?_|refine M.cs ?_ ?_<;>intro h|refine M.gk ?_|fail);all_goals first
   |rfl
   |(exfalso;simp at h;exact e1 h)
   |trace_state
 rw[if_neg (by simp[e1])];rw[e1] at h2;obtain⟨te,ti⟩:=Vx e1;by_cases e2:a.2=0;case neg=>
  rw[if_pos e2];refine M.F Tryz.func155 ?_;(repeat' first|refine M.go ?_|refine M.c2 (h5') ?_|refine M.c2 (h1) ?_|refine M.c2 (h2) ?_|refine M.c2 (h3) ?_|refine M.c2 (hpa) ?_|refine M.z1 11 ?_|refine M.cs ?_ ?_<;>intro h|refine M.gk ?_|fail);all_goals first
   |rfl
   |(exfalso;simp at h;exact e2 h)
   |trace_state
 rw[if_neg (by simp[e2])];rw[e2] at hpa;by_cases e3:c.room 2 1=0;case neg=>
  rw[if_pos e3];rw[KY e3] at h4;refine M.F Tryz.func155 ?_;(repeat' first|refine M.gw ?_|refine M.c2 (h5') ?_|refine M.c2 (h1) ?_|refine M.c2 (h2) ?_|refine M.c2 (h3) ?_|refine M.c2 (hpa) ?_|refine M.c2 (h4) ?_|fail);all_goals first
   |rfl
   |trace_state
 rw[if_neg (by simp[e3])];rw[e3] at h4;have hr:=ww e3;have hb:((c.below [Aa,Ah]).Au (f.A4 1 1)).ok:=(hc.below (l:=[Aa,Ah]) hr.1 (by simp[Hh,KF])).Au (by simpa[Ck.below] using hr.2) (Lx f1 (by omega)) (by simpa[Ck.below] using IX (g:=c.tys) (h:=[Ah]) [Aa] s0.1 f2);have h8:=Fg f2 s0.1 (by omega) (by simp;omega) 1 1 (by omega) (by omega);have h8':=Fg f2 s0.1 (by omega) (by simp;omega) 1 2 (by omega) (by omega);have h12:=hpb hb;have hub':=hub hb;by_cases e4:b.2=0;case neg=>
  rw[if_pos e4];refine M.F Tryz.func155 ?_;(repeat' first|refine M.go ?_|refine M.c2 (h5) ?_|refine M.c2 (h5') ?_|refine M.c2 (h1) ?_|refine M.c2 (h2) ?_|refine M.c2 (h3) ?_|refine M.c2 (hpa) ?_|refine M.c2 (h4) ?_|refine M.c2 (h6) ?_|refine M.c2 (h7) ?_|refine M.c2 (h8) ?_|refine M.c2 (h8') ?_|refine M.c2 (h9) ?_|refine M.c2 (h9') ?_|refine M.c2 (h10) ?_|refine M.c2 (h12) ?_|refine M.z1 17 ?_|refine M.cs ?_ ?_<;>intro h|refine M.gk ?_|fail);all_goals first
   |rfl
   |(exfalso;simp at h;exact e4 h)
   |trace_state
 rw[if_neg (by simp[e4])];rw[e4] at h12;have hfr:=NR t te ti (by omega);have hfl:=(ug ti).len;have hun:=Hr (Ex t) a.1 (by omega) (by omega);have hlu:A3 c.tys.length (v7 (Ex t) a.1):= .union (ug ti).2 hua.2;have hll:=hlu.len;have hbl:=hub'.len;have hou:=Ns b.1 2 (by omega) (by omega) (fun x hx=>by have:=hub'.2 x hx;omega);have hol:=MM b.1 2;have hun2:=Hr (v7 (Ex t) a.1) (Ds b.1 2) (by omega) (by omega);refine M.F Tryz.func155 ?_;(repeat' first|refine M.gw ?_|refine M.c2 (h5) ?_|refine M.c2 (h5') ?_|refine M.c2 (h1) ?_|refine M.c2 (h2) ?_|refine M.c2 (h3) ?_|refine M.c2 (hpa) ?_|refine M.c2 (h4) ?_|refine M.c2 (h6) ?_|refine M.c2 (h7) ?_|refine M.c2 (h8) ?_|refine M.c2 (h8') ?_|refine M.c2 (h9) ?_|refine M.c2 (h9') ?_|refine M.c2 (h10) ?_|refine M.c2 (h12) ?_|refine M.c2 (h11) ?_|refine M.c2 (hfr) ?_|refine M.c2 (hun) ?_|refine M.c2 (hou) ?_|refine M.c2 (hun2) ?_|fail);all_goals first
  |rfl
  |trace_state
end
def Kn(p:Pf):Prop:=∀c:Ck,c.ok->PC E 45 [.agg c.view,.agg p.view] (Di (BR p c).1 (BR p c).2.1 (BR p c).2.2)
def Wn(p:Pf):Prop:=p.shape=true/\p.small=true
theorem Zlo{p:Pf}(h:p.small=true):(∀t∈p.terms,t.size<=4096)/\(∀f∈p.Aq,f.size<=4096)/\∀x∈p.args,x.small=true:=by
 rw[p.CA] at h;simp only[Bool.and_eq_true,List.all_eq_true,decide_eq_true_eq] at h;exact⟨h.1.1,h.1.2,h.2⟩
theorem Zss{p:Pf}{c:Ck}(hc:c.ok)(hr:vv c (Hv p.kind p.index p.ty p.terms p.Aq (p.args.map BR) c))
 (hrl:PC E 93 [.agg c.view,.agg p.view] (B1 (Hv p.kind p.index p.ty p.terms p.Aq (p.args.map BR) c))):
 PC E 45 [.agg c.view,.agg p.view] (Di (BR p c).1 (BR p c).2.1 (BR p c).2.2):=by
 rw[Q3];generalize Hv p.kind p.index p.ty p.terms p.Aq (p.args.map BR) c=r at*;obtain⟨f,u,e⟩:=r;unfold Ju;by_cases he:e=0;case neg=>
  rw[if_pos he];refine M.F Tryz.func45 ?_;(repeat' first|refine M.go ?_|refine M.c2 (hrl) ?_|refine M.z1 4 ?_|refine M.cs ?_ ?_<;>intro h|refine M.gk ?_|fail);all_goals first
   |rfl
   |(exfalso;simp at h;exact he h)
   |trace_state
 subst he;rw[if_neg (by simp)];obtain⟨r1,r2,r3,r4⟩:=hr rfl;simp only at r1 r2;have hfl:=HN f r1;have h1:=wz f (by omega);by_cases hf:f.err=0;case neg=>
  rw[if_pos hf];refine M.F Tryz.func45 ?_;(repeat' first|refine M.go ?_|refine M.c2 (hrl) ?_|refine M.c2 (h1) ?_|refine M.z1 6 ?_|refine M.cs ?_ ?_<;>intro h|refine M.gk ?_|fail);all_goals first
   |rfl
   |(exfalso;simp at h;exact hf h)
   |trace_state
 rw[if_neg (by simp[hf])];have h2:=Zsc f hf;rw[hf] at h1;cases hcf:DJ f with
 |true=>
  rw[hcf] at h2;rw[if_pos rfl];refine M.F Tryz.func45 ?_;(repeat' first|refine M.gw ?_|refine M.c2 (hrl) ?_|refine M.c2 (h1) ?_|refine M.c2 (h2) ?_|fail);all_goals first
   |rfl
   |trace_state
 |false=>
  rw[hcf] at h2;rw[if_neg (by simp)];refine M.F Tryz.func45 ?_;(repeat' first|refine M.gw ?_|refine M.c2 (hrl) ?_|refine M.c2 (h1) ?_|refine M.c2 (h2) ?_|fail);all_goals first
   |rfl
   |trace_state
theorem Zzq{t:Tm}(hs:t.shape=true)(hz:t.size<=4096):t.full<=300000:=by have:=JM t hs;omega
theorem Zxs{f:Fm}(hs:f.shape=true)(hz:f.size<=4096):f.full<=300000:=by have:=HN f hs;omega
section
variable {c:Ck}
theorem Zyr{s:Ty}{p:Pf}{r:B4}(h1:PC E 150 [.agg c.view,.agg (Pf.mk 8 0 s [] [] [p]).view] (B1 r)):PC E 93 [.agg c.view,.agg (Pf.mk 8 0 s [] [] [p]).view] (B1 r):=by
 refine M.F Tryz.func93 ?_;(repeat' first|refine M.gw ?_|refine M.c2 (h1) ?_|refine M.bl ?_|fail)
 rfl
theorem Zxc{s:Ty}{p:Pf}{r:B4}(h1:PC E 150 [.agg c.view,.agg (Pf.mk 12 0 s [] [] [p]).view] (B1 r)):PC E 93 [.agg c.view,.agg (Pf.mk 12 0 s [] [] [p]).view] (B1 r):=by
 refine M.F Tryz.func93 ?_;(repeat' first|refine M.gw ?_|refine M.c2 (h1) ?_|refine M.bl ?_|fail)
 rfl
theorem Ycw{t:Tm}{p:Pf}{r:B4}(h1:PC E 151 [.agg c.view,.agg (Pf.mk 9 0 (.mk 0 []) [t] [] [p]).view] (B1 r)):PC E 93 [.agg c.view,.agg (Pf.mk 9 0 (.mk 0 []) [t] [] [p]).view] (B1 r):=by
 refine M.F Tryz.func93 ?_;(repeat' first|refine M.gw ?_|refine M.c2 (h1) ?_|refine M.bl ?_|fail)
 rfl
theorem Yai{t:Tm}{p:Pf}{r:B4}(h1:PC E 151 [.agg c.view,.agg (Pf.mk 13 0 (.mk 0 []) [t] [] [p]).view] (B1 r)):PC E 93 [.agg c.view,.agg (Pf.mk 13 0 (.mk 0 []) [t] [] [p]).view] (B1 r):=by
 refine M.F Tryz.func93 ?_;(repeat' first|refine M.gw ?_|refine M.c2 (h1) ?_|refine M.bl ?_|fail)
 rfl
theorem Zyf{t:Tm}{f:Fm}{p:Pf}{r:B4}(h1:PC E 152 [.agg c.view,.agg (Pf.mk 10 0 (.mk 0 []) [t] [f] [p]).view] (B1 r)):PC E 93 [.agg c.view,.agg (Pf.mk 10 0 (.mk 0 []) [t] [f] [p]).view] (B1 r):=by
 refine M.F Tryz.func93 ?_;(repeat' first|refine M.gw ?_|refine M.c2 (h1) ?_|refine M.bl ?_|fail)
 rfl
theorem Zyx{t:Tm}{f:Fm}{p:Pf}{r:B4}(h1:PC E 152 [.agg c.view,.agg (Pf.mk 14 0 (.mk 0 []) [t] [f] [p]).view] (B1 r)):PC E 93 [.agg c.view,.agg (Pf.mk 14 0 (.mk 0 []) [t] [f] [p]).view] (B1 r):=by
 refine M.F Tryz.func93 ?_;(repeat' first|refine M.gw ?_|refine M.c2 (h1) ?_|refine M.bl ?_|fail)
 rfl
theorem Zrd{p q:Pf}{r:B4}(h1:PC E 153 [.agg c.view,.agg (Pf.mk 11 0 (.mk 0 []) [] [] [p,q]).view] (B1 r)):PC E 93 [.agg c.view,.agg (Pf.mk 11 0 (.mk 0 []) [] [] [p,q]).view] (B1 r):=by
 refine M.F Tryz.func93 ?_;(repeat' first|refine M.gw ?_|refine M.c2 (h1) ?_|refine M.bl ?_|fail)
 rfl
theorem Zro{p q:Pf}{r:B4}(h1:PC E 153 [.agg c.view,.agg (Pf.mk 15 0 (.mk 0 []) [] [] [p,q]).view] (B1 r)):PC E 93 [.agg c.view,.agg (Pf.mk 15 0 (.mk 0 []) [] [] [p,q]).view] (B1 r):=by
 refine M.F Tryz.func93 ?_;(repeat' first|refine M.gw ?_|refine M.c2 (h1) ?_|refine M.bl ?_|fail)
 rfl
theorem Zu5{t:Tm}{f:Fm}{p q:Pf}{r:B4}(h1:PC E 154 [.agg c.view,.agg (Pf.mk 16 0 (.mk 0 []) [t] [f] [p,q]).view] (B1 r)):PC E 93 [.agg c.view,.agg (Pf.mk 16 0 (.mk 0 []) [t] [f] [p,q]).view] (B1 r):=by
 refine M.F Tryz.func93 ?_;(repeat' first|refine M.gw ?_|refine M.c2 (h1) ?_|refine M.bl ?_|fail)
 rfl
theorem Zrf{t:Tm}{f:Fm}{p q:Pf}{r:B4}(h1:PC E 155 [.agg c.view,.agg (Pf.mk 17 0 (.mk 0 []) [t] [f] [p,q]).view] (B1 r)):PC E 93 [.agg c.view,.agg (Pf.mk 17 0 (.mk 0 []) [t] [f] [p,q]).view] (B1 r):=by
 refine M.F Tryz.func93 ?_;(repeat' first|refine M.gw ?_|refine M.c2 (h1) ?_|refine M.bl ?_|fail)
 rfl
theorem Zo4{f:Fm}{p q:Pf}{r:B4}(h1:PC E 157 [.agg c.view,.agg (Pf.mk 19 0 (.mk 0 []) [] [f] [p,q]).view] (B1 r)):PC E 93 [.agg c.view,.agg (Pf.mk 19 0 (.mk 0 []) [] [f] [p,q]).view] (B1 r):=by
 refine M.F Tryz.func93 ?_;(repeat' first|refine M.gw ?_|refine M.c2 (h1) ?_|refine M.bl ?_|fail)
 rfl
theorem Zlb{p:Pf}{r:B4}(h1:PC E 158 [.agg c.view,.agg (Pf.mk 20 0 (.mk 0 []) [] [] [p]).view] (B1 r)):PC E 93 [.agg c.view,.agg (Pf.mk 20 0 (.mk 0 []) [] [] [p]).view] (B1 r):=by
 refine M.F Tryz.func93 ?_;(repeat' first|refine M.gw ?_|refine M.c2 (h1) ?_|refine M.bl ?_|fail)
 rfl
theorem Zzz{t:Tm}(hc:c.ok)(ht:t.full<=300000):PC E 93 [.agg c.view,.agg (Pf.mk 18 0 (.mk 0 []) [t] [] []).view] (B1 (JC t c)):=by
 have h1:=FL t t (by omega) (by omega);have h2:=PS c t 1 (by omega) (by have:=hc.sum;omega);unfold JC;refine M.F Tryz.func93 ?_;(repeat' first|refine M.gw ?_|refine M.c2 (h1) ?_|refine M.c2 (h2) ?_|refine M.bl ?_|fail)
 rfl
end
theorem Zyk(p:Pf):p.shape=true->p.small=true->Kn p:=by
 induction p using Pf.ind with
 |h p ih=>
  intro hs hm c hc;refine Zss hc (Yam hs hc) ?_;obtain⟨h1,h2,h3,h4⟩:=wg hs;obtain⟨m1,m2,m3⟩:=Zlo hm;obtain⟨nd,n1,n2,n3,n4,n5,n6,n7,n8,n9⟩:=Zzl hs;have hA:∀a∈p.args,Kn a/\BK (BR a):=fun a ha=>⟨ih a ha (h4 a ha) (m3 a ha),N8 a (h4 a ha)⟩;have hT:∀t∈p.terms,t.full<=300000:=fun t ht=>Zzq (h2 t ht) (m1 t ht);have hF:∀f∈p.Aq,f.full<=300000:=fun f hf=>Zxs (h3 f hf) (m2 f hf);have hS:∀f∈p.Aq,f.shape=true:=h3;have hk:p.kind=1\/p.kind=2\/p.kind=3\/p.kind=4\/p.kind=5\/p.kind=6\/p.kind=7\/p.kind=8\/p.kind=9\/p.kind=10\/p.kind=11\/p.kind=12\/p.kind=13\/p.kind=14\/p.kind=15\/p.kind=16\/p.kind=17\/p.kind=18\/p.kind=19\/p.kind=20:=by omega
  clear ih hs hm h1 h2 h3 h4 m1 m2 m3 n9;obtain⟨k,i,s,ts,fs,zs⟩:=p;simp only[Pf.kind,Pf.index,Pf.ty,Pf.terms,Pf.Aq,Pf.args] at*;have hroom:c.tys.length+1<=16->∀s:Ty,s.err=0->(c.below [s]).ok:=fun h s hs=>hc.below (l:=[s]) h (by simpa using hs);rcases hk with rfl|rfl|rfl|rfl|rfl|rfl|rfl|rfl|rfl|rfl|rfl|rfl|rfl|rfl|rfl|rfl|rfl|rfl|rfl|rfl;all_goals(simp only[C1,reduceIte,Int.reduceEq,or_false,false_or,or_true,true_or,Option.some.injEq] at n1)
  all_goals(subst n1)
  all_goals(simp only[forall_const,reduceCtorEq,false_implies,Bool.true_eq_false,Bool.false_eq_true] at n2 n3 n4 n6 n7 n8)
  all_goals(first|(obtain rfl:=Qh n2)|(obtain⟨t,rfl⟩:=OY n2))
  all_goals(first|(obtain rfl:=Qh n3)|(obtain⟨f,rfl⟩:=OY n3))
  all_goals(first|(obtain rfl:=Qh n4)|(obtain⟨a,rfl⟩:=OY n4)|(obtain⟨a,b,rfl⟩:=ln2 n4))
  all_goals(try subst n6)
  all_goals(try subst n8)
  ·exact Yc7 hc i n5
  ·exact Ycv hc i n5
  ·exact Yet hc ((hA a (by simp)).1 c hc) ((hA b (by simp)).1 c hc) ((hA a (by simp)).2 c hc) ((hA b (by simp)).2 c hc)
  ·exact TA hc 0 (by omega) ((hA a (by simp)).1 c hc) ((hA a (by simp)).2 c hc)
  ·exact TA hc 1 (by omega) ((hA a (by simp)).1 c hc) ((hA a (by simp)).2 c hc)
  ·exact Zz6 hc (hF f (by simp)) (fun t0 r0=>(hA a (by simp)).1 _ (hc.Au (ww r0).2 (xv t0).1 (xv t0).2))
    (fun t0 r0=>by
     have ho:=hc.Au (ww r0).2 (xv t0).1 (xv t0).2;exact(FX ho ((hA a (by simp)).2 _ ho)).1)
  ·exact Zx4 hc ((hA a (by simp)).1 c hc) ((hA b (by simp)).1 c hc) ((hA a (by simp)).2 c hc) ((hA b (by simp)).2 c hc)
  ·exact Zyr (Up hc (.inl rfl) n7 (fun r0=>(hA a (by simp)).1 _ (hroom (ww r0).1 s n7)) (fun r0=>FX (hroom (ww r0).1 s n7) ((hA a (by simp)).2 _ (hroom (ww r0).1 s n7))))
  ·exact Ycw (U3 hc (.inl rfl) (hT t (by simp)) ((hA a (by simp)).1 c hc) ((hA a (by simp)).2 c hc))
  ·exact Zyf (Va (r0:=BR a) hc (.inl rfl) (hF f (by simp)) (hT t (by simp)) (Jn hc (by have:=T8 f;have:=hF f (by simp);omega) (hT t (by simp)) ((hA a (by simp)).1 c hc) ((hA a (by simp)).2 c hc)) (w9 (hA a (by simp)).2 hc _ _))
  ·exact Zrd (Wb (r0:=BR a) (r1:=BR b) hc (.inl rfl) rfl rfl ((hA a (by simp)).1 c hc) ((hA a (by simp)).2 c hc) (fun h=>(hA b (by simp)).1 _ h) (fun h=>(hA b (by simp)).2 _ h))
  ·exact Zxc (Up hc (.inr rfl) n7 (fun r0=>(hA a (by simp)).1 _ (hroom (ww r0).1 s n7)) (fun r0=>FX (hroom (ww r0).1 s n7) ((hA a (by simp)).2 _ (hroom (ww r0).1 s n7))))
  ·exact Yai (U3 hc (.inr rfl) (hT t (by simp)) ((hA a (by simp)).1 c hc) ((hA a (by simp)).2 c hc))
  ·exact Zyx (Va (r0:=BR a) hc (.inr rfl) (hF f (by simp)) (hT t (by simp)) (Jn hc (by have:=T8 f;have:=hF f (by simp);omega) (hT t (by simp)) ((hA a (by simp)).1 c hc) ((hA a (by simp)).2 c hc)) (w9 (hA a (by simp)).2 hc _ _))
  ·exact Zro (Wb (r0:=BR a) (r1:=BR b) hc (.inr rfl) rfl rfl ((hA a (by simp)).1 c hc) ((hA a (by simp)).2 c hc) (fun h=>(hA b (by simp)).1 _ h) (fun h=>(hA b (by simp)).2 _ h))
  ·have hff:=hF f (by simp);exact Zu5 (Yfb (r0:=BR a) (r1:=BR b) hc hff (hT t (by simp)) (Jn hc (by omega) (by decide) ((hA a (by simp)).1 c hc) ((hA a (by simp)).2 c hc))
    (fun h=>Jn h (by have:=(Lw (hS f (by simp)) (fr:=1) (by_:=1) (by omega)).2.2;omega) (by decide) ((hA b (by simp)).1 _ h) ((hA b (by simp)).2 _ h))
    (w9 (hA a (by simp)).2 hc _ _) (fun h=>by have:=w9 (hA b (by simp)).2 h (f.A4 1 1) (sT (vT 0));simpa[Ck.below,Ck.Au] using this))
  ·have hff:=hF f (by simp);exact Zrf (Yen (r0:=BR a) (r1:=BR b) hc hff (hT t (by simp)) (Jn hc (by omega) (by decide) ((hA a (by simp)).1 c hc) ((hA a (by simp)).2 c hc))
    (fun h=>Jn h (by have:=(Lw (hS f (by simp)) (fr:=1) (by_:=2) (by omega)).2.2;omega) (by decide) ((hA b (by simp)).1 _ h) ((hA b (by simp)).2 _ h))
    (w9 (hA a (by simp)).2 hc _ _) (fun h=>by have:=w9 (hA b (by simp)).2 h (f.A4 1 2) BQ;simpa[Ck.below,Ck.Au] using this))
  ·exact Zzz hc (hT t (by simp))
  ·exact Zo4 (Zz4 (r0:=BR a) (r1:=BR b) hc rfl (hF f (by simp)) ((hA a (by simp)).1 c hc) ((hA a (by simp)).2 c hc) (fun t ht=>Jn hc (by have:=hF f (by simp);omega) ht ((hA b (by simp)).1 c hc) ((hA b (by simp)).2 c hc)))
  ·exact Zlb (Ztj (r0:=BR a) hc rfl ((hA a (by simp)).1 c hc) ((hA a (by simp)).2 c hc))
theorem Tq(lems hyps:List Fm)(tys:List Ty)(hl:∀f∈lems,f.full<274877906944)(hh:∀f∈hyps,f.full<274877906944)(ht:(tys.map Ty.size).sum<549755813888)(hll:lems.length<549755813888)(hhl:hyps.length<549755813888):
 PC E 43 [.s .fm lems,.agg [.s .ty tys,.s .fm hyps]] (.i (CU lems tys hyps)):=by
 have h1:=OC tys (by omega);unfold CU;by_cases c1:lems.length>32
 ·rw[if_pos c1];refine M.F Tryz.func43 ?_;(repeat' first|refine M.go ?_|refine M.z1 3 ?_|refine M.cs ?_ ?_<;>intro h|refine M.gk ?_|fail);all_goals first
   |rfl
   |(exfalso;simp at h;omega)
   |trace_state
 rw[if_neg c1];refine M.F Tryz.func43 ?_;(repeat' first|refine M.gw ?_|refine M.cs ?_ ?_<;>intro h|fail)
 ·exfalso;simp at h;omega
 refine AW.range lems.length (fun m=>∀j (hj:j<lems.length),j<m->yb [] lems[j]=0)
  (fun m=>([(3,.ptr 0 0),(15,.s .fm lems),(16,.i lems.length),(17,.i m)],⟨1,[(0,.var [.s .ty tys,.s .fm hyps])]⟩))
  (by omega) (fun m=>rfl) (fun m=>rfl) rfl (fun j hj h=>by omega) (M.W [some 0]) ?_ ?_
 ·intro m hm hP;have hc:=K6 [] lems[m] (by have:=hl _ (List.getElem_mem hm);omega) (by simp);by_cases hx:yb [] lems[m]=0
  ·rw[hx] at hc;(repeat' first|refine M.gw ?_|refine M.c2 (hc) ?_|fail);exact⟨rfl,z4 (p:=fun f=>yb [] f=0) hm hP hx,(M.W [some 0])⟩
  ·have e:=yr hm hP hx;rw[e,if_pos hx];(repeat' first|refine M.gw ?_|refine M.c2 (hc) ?_|refine M.cs ?_ ?_<;>intro h|fail);all_goals first
    |rfl
    |(exfalso;rename_i h5;simp at h5;exact hx h5)
    |(exfalso;simp at h;exact hx h)
    |trace_state
 ·intro hP;rw[yd fun j hj _=>hP j hj hj,if_neg (by simp)];by_cases c2:y1 tys=0;case neg=>
   rw[if_pos c2];(repeat' first|refine M.go ?_|refine M.c2 (h1) ?_|refine M.z1 13 ?_|refine M.cs ?_ ?_<;>intro h|refine M.gk ?_|fail);all_goals first
    |rfl
    |(exfalso;simp at h;exact c2 h)
    |trace_state
  rw[if_neg (by simp[c2])];rw[c2] at h1;by_cases c3:hyps.length>16
  ·rw[if_pos c3];(repeat' first|refine M.go ?_|refine M.c2 (h1) ?_|refine M.z1 15 ?_|refine M.cs ?_ ?_<;>intro h|refine M.gk ?_|fail);all_goals first
    |rfl
    |(exfalso;simp at h;omega)
    |trace_state
  rw[if_neg c3];(repeat' first|refine M.gw ?_|refine M.c2 (h1) ?_|refine M.cs ?_ ?_<;>intro h|fail)
  ·exfalso;simp at h;omega
  refine AW.range hyps.length (fun m=>∀j (hj:j<hyps.length),j<m->yb tys hyps[j]=0)
   (fun m=>([(3,.ptr 0 0),(38,.s .fm hyps),(39,.i hyps.length),(40,.i m)],⟨1,[(0,.var [.s .ty tys,.s .fm hyps])]⟩))
   (by omega) (fun m=>rfl) (fun m=>rfl) rfl (fun j hj h=>by omega) (M.W [some 0]) ?_ ?_
  ·intro m hm hP2;have hc:=K6 tys hyps[m] (by have:=hh _ (List.getElem_mem hm);omega) (by omega);by_cases hx:yb tys hyps[m]=0
   ·rw[hx] at hc;(repeat' first|refine M.gw ?_|refine M.c2 (hc) ?_|fail);exact⟨rfl,z4 (p:=fun f=>yb tys f=0) hm hP2 hx,(M.W [some 0])⟩
   ·have e:=yr hm hP2 hx;rw[e];(repeat' first|refine M.gw ?_|refine M.c2 (hc) ?_|refine M.cs ?_ ?_<;>intro h|fail);all_goals first
     |rfl
     |(exfalso;rename_i h5;simp at h5;exact hx h5)
     |(exfalso;simp at h;exact hx h)
     |trace_state
  ·intro hP2;rw[yd fun j hj _=>hP2 j hj hj];(repeat' first|refine M.gw ?_|fail)
   rfl
theorem Us(lems hyps:List Fm)(tys:List Ty)(p:Pf)(hl:∀f∈lems,f.full<274877906944)(hh:∀f∈hyps,f.full<274877906944)(ht:(tys.map Ty.size).sum<549755813888)(hll:lems.length<549755813888)(hhl:hyps.length<549755813888)(hp:p.full<274877906944):
 PC E 9 [.s .fm lems,.agg [.s .ty tys,.s .fm hyps],.agg p.view] (Di (GH lems tys hyps p).1 (GH lems tys hyps p).2.1 (GH lems tys hyps p).2.2):=by
 have h1:=Tq lems hyps tys hl hh ht hll hhl;have h2:=Sa p (by omega);unfold GH;by_cases c1:CU lems tys hyps=0;case neg=>
  rw[if_pos c1];refine M.F Tryz.func9 ?_;(repeat' first|refine M.go ?_|refine M.c2 (h1) ?_|refine M.z1 4 ?_|refine M.cs ?_ ?_<;>intro h|refine M.gk ?_|fail);all_goals first
   |rfl
   |(exfalso;simp at h;exact c1 h)
   |trace_state
 rw[if_neg (by simp[c1])];rw[c1] at h1;by_cases c2:p.err=0;case neg=>
  rw[if_pos c2];refine M.F Tryz.func9 ?_;(repeat' first|refine M.go ?_|refine M.c2 (h1) ?_|refine M.c2 (h2) ?_|refine M.z1 7 ?_|refine M.cs ?_ ?_<;>intro h|refine M.gk ?_|fail);all_goals first
   |rfl
   |(exfalso;simp at h;exact c2 h)
   |trace_state
 rw[if_neg (by simp[c2])];rw[c2] at h2;obtain⟨ps,pm,_⟩:=(Pf.Ad p).1 c2;have hok:=V9 c1;have h3:PC E 45 [.agg [.s .fm lems,.s .ty tys,.s .fm hyps],.agg p.view] (Di (BR p ⟨lems,tys,hyps⟩).1 (BR p ⟨lems,tys,hyps⟩).2.1 (BR p ⟨lems,tys,hyps⟩).2.2):=Zyk p ps pm ⟨lems,tys,hyps⟩ hok;have hro:=N8 p ps ⟨lems,tys,hyps⟩ hok;generalize BR p ⟨lems,tys,hyps⟩=r at*;obtain⟨f,u,e⟩:=r;have hb:=FX hok hro;have h4:=x8 _ f (Nat.le_refl _) (by omega);by_cases he:e=0
 ·subst he;refine M.F Tryz.func9 ?_;(repeat' first|refine M.gw ?_|refine M.c2 (h1) ?_|refine M.c2 (h2) ?_|refine M.c2 (h3) ?_|refine M.c2 (h4) ?_|fail)
  rfl
 ·have e1:=hro.2 he;simp only[yg,Prod.mk.injEq] at e1;obtain⟨rfl,rfl,_⟩:=e1;refine M.F Tryz.func9 ?_;(repeat' first|refine M.go ?_|refine M.c2 (h1) ?_|refine M.c2 (h2) ?_|refine M.c2 (h3) ?_|refine M.z1 10 ?_|refine M.cs ?_ ?_<;>intro h|refine M.gk ?_|fail);all_goals first
   |rfl
   |(exfalso;simp at h;exact he h)
   |trace_state
theorem Yg7(g:List Ty)(th:Ty)(hg:g.length<274877906944)(hl:th.size<274877906944):PC E 231 [.s .sz (g.map AQ),.s .ty [th]] (.s .sz ((g++[th]).map AQ)):=by
 have h1:=Sh [th] (by simp;omega);simp only[List.map_cons,List.map_nil] at h1;refine M.F Tryz.func231 ?_;(repeat' first|refine M.gw ?_|refine M.c2 (h1) ?_|fail);simp[zk,V.wk,V.Ak]
theorem Zul(g:List Ty)(t:Tm)(ht:t.err=0)(hf:t.full<137438953472)(hg:∀x∈g,x.err=0)(hl:g.length<68719476736):PC E 232 [.s .sz (g.map AQ),.agg t.view] (.i (tE g t)):=by
 have h1:PC E 273 [.s .sz (g.map AQ),.agg t.view] (.Ax [.agg (AQ (t.inf g).1).view,.i (t.inf g).2]):=Zto _ t g (Nat.le_refl _) (y5 ht).1 hg (by omega);have h2:=Hw (AQ (t.inf g).1) 1;have e:tE g t=if(t.inf g).2≠0 then(t.inf g).2 else if(t.inf g).1.kind≠1 then 7 else 0:=by
  have ty:Dr g t=t.inf g:=by simp only[Dr];rw[if_neg (by simp[ht])]
  unfold tE;rw[ty]
 have hh:PC E 258 [.s .sz (g.map AQ),.agg t.view,.i 1] (.i (tE g t)):=by
  rw[e];generalize t.inf g=r at*;obtain⟨u,q⟩:=r;simp only at h1 h2 ⊢;by_cases hq:q=0
  ·subst hq;by_cases hk:u.kind=1
   ·rw[show((AQ u).ty.kind==1)=true by simp[AQ,hk]] at h2;refine M.F Tryz.func258 ?_;(repeat' first|refine M.gw ?_|refine M.c2 (h1) ?_|refine M.c2 (h2) ?_|fail);simp[zk,V.wk,V.Ak,hk]
   ·rw[show((AQ u).ty.kind==1)=false by simp[AQ,hk]] at h2;refine M.F Tryz.func258 ?_;(repeat' first|refine M.gw ?_|refine M.c2 (h1) ?_|refine M.c2 (h2) ?_|fail);simp[zk,V.wk,V.Ak,hk]
  ·refine M.F Tryz.func258 ?_;(repeat' first|refine M.gw ?_|refine M.c2 (h1) ?_|refine M.c2 (h2) ?_|refine M.gs ?_ ?_<;>intro h|refine M.cs ?_ ?_<;>intro h|fail);all_goals first|simp[zk,V.wk,V.Ak,hq];done|exfalso;simp_all;done
 refine M.F Tryz.func232 ?_;(repeat' first|refine M.gw ?_|refine M.c2 (hh) ?_|fail);simp[zk,V.wk,V.Ak,zd,Ty.view,Tm.view]
theorem Zsa:∀(n:Nat) (f:Fm) (g:List Ty),f.full<=n->n<68719476736->f.shape=true->f.size<=4096->(∀x∈g,x.err=0)->g.length+n<68719476736->PC E 188 [.s .sz (g.map AQ),.agg f.view] (.i (f.BJ g)):=by
 intro n;induction n with
 |zero=>intro f;intros;have:=f.Ac;omega
 |succ n ih=>
 intro f g hsz hn hs hz hg hgl;have hsz':=f.Af;have hzz:=f.size_eq;have hlen:=zh Fm.full Fm.Ac f.args;have hlen2:=zh Tm.full Tm.Ac f.terms;have he:=Fm.DO g f;have sa:=fun x (hx:x∈f.args)=>zl hs hx;have st:=fun t (ht:t∈f.terms)=>zw hs ht;have hkk:=Ny hs;obtain⟨k,th,ts,xs⟩:=f;simp only[Fm.Am,Fm.AD,Fm.Ar,Fm.Ae] at*;have args:∀(g':List Ty),(∀x∈g',x.err=0)->g'.length+n<68719476736->∀m (hm:m<xs.length),PC E 188 [.s .sz (g'.map AQ),.agg xs[m].view] (.i (xs[m].BJ g')):=fun g' h' hl' m hm=>by
  have h1:=ze Fm.full (List.getElem_mem hm);have h2:=ze Fm.size (List.getElem_mem hm);exact ih xs[m] g' (by omega) (by omega) (sa _ (List.getElem_mem hm)) (by omega) h' hl'
 have hw:=Yg7 g th (by omega) (by omega);rcases hkk with⟨rfl,rfl⟩|⟨hk,rfl⟩|⟨hk,rfl,hth⟩
 ·replace he:Fm.BJ g (Fm.mk 1 th ts [])=yw (tE g) ts:=by
   rw[he];by_cases hx:yw (tE g) ts=0<;>simp[hx,yw]
  refine M.F Tryz.func188 ?_;(repeat' first|refine M.gw ?_|refine M.zb ?_|refine M.bl ?_|fail);refine K.sq (AW.block ?_);(repeat' first|refine M.gw ?_|refine M.bl ?_|fail);refine AW.range ts.length (fun m=>∀j (hj:j<ts.length),j<m->tE g ts[j]=0)
   (fun m=>([(0,.s .sz (g.map AQ)),(3,.ptr 0 0),(42,.s .tm ts),(43,.i ts.length),(44,.i m)],⟨1,[(0,.var (Fm.mk 1 th ts []).view)]⟩))
   (by omega) (fun m=>rfl) (fun m=>rfl) rfl (fun j hj h=>by omega) (M.W [some 0]) ?_ ?_
  ·intro m hm hP;have h1:=ze Tm.full (List.getElem_mem hm);have h2:=ze Tm.size (List.getElem_mem hm);have hc:=Zul g ts[m] ((Tm.Ad _).2 ⟨st _ (List.getElem_mem hm),by omega⟩) (by omega) hg (by omega);(repeat' first|refine M.gw ?_|refine M.c2 (hc) ?_|refine M.cs ?_ ?_<;>intro h|fail)
   ·have hx:tE g ts[m]≠0:=by simpa using h
    rw[he,yr hm hP hx]
    rfl
   ·exact ⟨rfl,z4 (p:=fun x=>tE g x=0) hm hP (by simpa using h),(M.W [some 0])⟩
  ·intro hP;rw[he,yd (f:=tE g) fun j hj _=>hP j hj hj];(repeat' first|refine M.gw ?_|fail)
   rfl
 ·have e0:Cx g (Fm.mk k th [] xs)=g:=by simp only[Cx,y7,Fm.Am];rcases hk with rfl|rfl<;>rfl
  rw[e0] at he;replace he:Fm.BJ g (Fm.mk k th [] xs)=yw (Fm.BJ g) xs:=by rw[he];simp[yw]
  rcases hk with rfl|rfl
  ·refine M.F Tryz.func188 ?_;(repeat' first|refine M.gw ?_|refine M.zb ?_|refine M.bl ?_|fail);refine K.sq (AW.block ?_);(repeat' first|refine M.gw ?_|refine M.bl ?_|fail);refine AW.range xs.length (fun m=>∀j (hj:j<xs.length),j<m->xs[j].BJ (g)=0)
    (fun m=>([(0,.s .sz ((g).map AQ)),(3,.ptr 0 0),(28,.s .fm xs),(29,.i xs.length),(30,.i m)],⟨1,[(0,.var (Fm.mk 2 th [] xs).view)]⟩))
    (by omega) (fun m=>rfl) (fun m=>rfl) rfl (fun j hj h=>by omega) (M.W [some 0]) ?_ ?_
   ·intro m hm hP;have hc:=args (g) hg (by omega) m hm;(repeat' first|refine M.gw ?_|refine M.c2 (hc) ?_|refine M.cs ?_ ?_<;>intro h|fail)
    ·have hx:xs[m].BJ (g)≠0:=by simpa using h
     rw[he,yr hm hP hx]
     rfl
    ·exact ⟨rfl,z4 (p:=fun x=>Fm.BJ (g) x=0) hm hP (by simpa using h),(M.W [some 0])⟩
   ·intro hP;rw[he,yd (f:=Fm.BJ (g)) fun j hj _=>hP j hj hj];(repeat' first|refine M.gw ?_|fail)
    rfl
  ·refine M.F Tryz.func188 ?_;(repeat' first|refine M.gw ?_|refine M.zb ?_|refine M.bl ?_|fail);refine K.sq (AW.block ?_);(repeat' first|refine M.gw ?_|refine M.bl ?_|fail);refine AW.range xs.length (fun m=>∀j (hj:j<xs.length),j<m->xs[j].BJ (g)=0)
    (fun m=>([(0,.s .sz ((g).map AQ)),(3,.ptr 0 0),(28,.s .fm xs),(29,.i xs.length),(30,.i m)],⟨1,[(0,.var (Fm.mk 3 th [] xs).view)]⟩))
    (by omega) (fun m=>rfl) (fun m=>rfl) rfl (fun j hj h=>by omega) (M.W [some 0]) ?_ ?_
   ·intro m hm hP;have hc:=args (g) hg (by omega) m hm;(repeat' first|refine M.gw ?_|refine M.c2 (hc) ?_|refine M.cs ?_ ?_<;>intro h|fail)
    ·have hx:xs[m].BJ (g)≠0:=by simpa using h
     rw[he,yr hm hP hx]
     rfl
    ·exact ⟨rfl,z4 (p:=fun x=>Fm.BJ (g) x=0) hm hP (by simpa using h),(M.W [some 0])⟩
   ·intro hP;rw[he,yd (f:=Fm.BJ (g)) fun j hj _=>hP j hj hj];(repeat' first|refine M.gw ?_|fail)
    rfl
 ·have e0:Cx g (Fm.mk k th [] xs)=g++[th]:=by simp only[Cx,y7,Fm.Am,Fm.AD];rcases hk with rfl|rfl|rfl|rfl<;>rfl
  rw[e0] at he;replace he:Fm.BJ g (Fm.mk k th [] xs)=yw (Fm.BJ (g++[th])) xs:=by rw[he];simp[yw]
  have hg':∀x∈g++[th],x.err=0:=fun x hx=>by
   rcases List.mem_append.1 hx with h|h
   ·exact hg x h
   ·simp at h;subst h;exact hth
  rcases hk with rfl|rfl|rfl|rfl
  ·refine M.F Tryz.func188 ?_;(repeat' first|refine M.gw ?_|refine M.zb ?_|refine M.bl ?_|fail);refine K.sq (AW.block ?_);(repeat' first|refine M.gw ?_|refine M.c2 (hw) ?_|refine M.bl ?_|fail);refine AW.range xs.length (fun m=>∀j (hj:j<xs.length),j<m->xs[j].BJ (g++[th])=0)
    (fun m=>([(0,.s .sz ((g++[th]).map AQ)),(3,.ptr 0 0),(28,.s .fm xs),(29,.i xs.length),(30,.i m)],⟨1,[(0,.var (Fm.mk 4 th [] xs).view)]⟩))
    (by omega) (fun m=>rfl) (fun m=>rfl) rfl (fun j hj h=>by omega) (M.W [some 0]) ?_ ?_
   ·intro m hm hP;have hc:=args (g++[th]) hg' (by simp;omega) m hm;(repeat' first|refine M.gw ?_|refine M.c2 (hc) ?_|refine M.cs ?_ ?_<;>intro h|fail)
    ·have hx:xs[m].BJ (g++[th])≠0:=by simpa using h
     rw[he,yr hm hP hx]
     rfl
    ·exact ⟨rfl,z4 (p:=fun x=>Fm.BJ (g++[th]) x=0) hm hP (by simpa using h),(M.W [some 0])⟩
   ·intro hP;rw[he,yd (f:=Fm.BJ (g++[th])) fun j hj _=>hP j hj hj];(repeat' first|refine M.gw ?_|fail)
    rfl
  ·refine M.F Tryz.func188 ?_;(repeat' first|refine M.gw ?_|refine M.zb ?_|refine M.bl ?_|fail);refine K.sq (AW.block ?_);(repeat' first|refine M.gw ?_|refine M.c2 (hw) ?_|refine M.bl ?_|fail);refine AW.range xs.length (fun m=>∀j (hj:j<xs.length),j<m->xs[j].BJ (g++[th])=0)
    (fun m=>([(0,.s .sz ((g++[th]).map AQ)),(3,.ptr 0 0),(28,.s .fm xs),(29,.i xs.length),(30,.i m)],⟨1,[(0,.var (Fm.mk 5 th [] xs).view)]⟩))
    (by omega) (fun m=>rfl) (fun m=>rfl) rfl (fun j hj h=>by omega) (M.W [some 0]) ?_ ?_
   ·intro m hm hP;have hc:=args (g++[th]) hg' (by simp;omega) m hm;(repeat' first|refine M.gw ?_|refine M.c2 (hc) ?_|refine M.cs ?_ ?_<;>intro h|fail)
    ·have hx:xs[m].BJ (g++[th])≠0:=by simpa using h
     rw[he,yr hm hP hx]
     rfl
    ·exact ⟨rfl,z4 (p:=fun x=>Fm.BJ (g++[th]) x=0) hm hP (by simpa using h),(M.W [some 0])⟩
   ·intro hP;rw[he,yd (f:=Fm.BJ (g++[th])) fun j hj _=>hP j hj hj];(repeat' first|refine M.gw ?_|fail)
    rfl
  ·refine M.F Tryz.func188 ?_;(repeat' first|refine M.gw ?_|refine M.zb ?_|refine M.bl ?_|fail);refine K.sq (AW.block ?_);(repeat' first|refine M.gw ?_|refine M.c2 (hw) ?_|refine M.bl ?_|fail);refine AW.range xs.length (fun m=>∀j (hj:j<xs.length),j<m->xs[j].BJ (g++[th])=0)
    (fun m=>([(0,.s .sz ((g++[th]).map AQ)),(3,.ptr 0 0),(28,.s .fm xs),(29,.i xs.length),(30,.i m)],⟨1,[(0,.var (Fm.mk 6 th [] xs).view)]⟩))
    (by omega) (fun m=>rfl) (fun m=>rfl) rfl (fun j hj h=>by omega) (M.W [some 0]) ?_ ?_
   ·intro m hm hP;have hc:=args (g++[th]) hg' (by simp;omega) m hm;(repeat' first|refine M.gw ?_|refine M.c2 (hc) ?_|refine M.cs ?_ ?_<;>intro h|fail)
    ·have hx:xs[m].BJ (g++[th])≠0:=by simpa using h
     rw[he,yr hm hP hx]
     rfl
    ·exact ⟨rfl,z4 (p:=fun x=>Fm.BJ (g++[th]) x=0) hm hP (by simpa using h),(M.W [some 0])⟩
   ·intro hP;rw[he,yd (f:=Fm.BJ (g++[th])) fun j hj _=>hP j hj hj];(repeat' first|refine M.gw ?_|fail)
    rfl
  ·refine M.F Tryz.func188 ?_;(repeat' first|refine M.gw ?_|refine M.zb ?_|refine M.bl ?_|fail);refine K.sq (AW.block ?_);(repeat' first|refine M.gw ?_|refine M.c2 (hw) ?_|refine M.bl ?_|fail);refine AW.range xs.length (fun m=>∀j (hj:j<xs.length),j<m->xs[j].BJ (g++[th])=0)
    (fun m=>([(0,.s .sz ((g++[th]).map AQ)),(3,.ptr 0 0),(28,.s .fm xs),(29,.i xs.length),(30,.i m)],⟨1,[(0,.var (Fm.mk 7 th [] xs).view)]⟩))
    (by omega) (fun m=>rfl) (fun m=>rfl) rfl (fun j hj h=>by omega) (M.W [some 0]) ?_ ?_
   ·intro m hm hP;have hc:=args (g++[th]) hg' (by simp;omega) m hm;(repeat' first|refine M.gw ?_|refine M.c2 (hc) ?_|refine M.cs ?_ ?_<;>intro h|fail)
    ·have hx:xs[m].BJ (g++[th])≠0:=by simpa using h
     rw[he,yr hm hP hx]
     rfl
    ·exact ⟨rfl,z4 (p:=fun x=>Fm.BJ (g++[th]) x=0) hm hP (by simpa using h),(M.W [some 0])⟩
   ·intro hP;rw[he,yd (f:=Fm.BJ (g++[th])) fun j hj _=>hP j hj hj];(repeat' first|refine M.gw ?_|fail)
    rfl
theorem Zwl(g:List Ty)(f:Fm)(hf:f.full<34359738368)(hg:y1 g=0)(hg':∀x∈g,x.err=0)(hl:g.length<4096)(hs:(g.map Ty.size).sum<137438953472)(he:f.err=0):PC E 121 [.s .ty g,.agg f.view] (.i (f.BJ g)):=by
 have h1:=NX g (by omega);have h2:=JE f (by omega);have h3:=Sh g (by omega);have h4:=(Fm.Ad f).1 he;have h5:=Zsa _ f g (Nat.le_refl _) (by omega) h4.1 h4.2 hg' (by omega);rw[hg] at h1;rw[he] at h2;refine M.F Tryz.func121 ?_;(repeat' first|refine M.gw ?_|refine M.c2 (h1) ?_|refine M.c2 (h2) ?_|refine M.c2 (h3) ?_|refine M.c2 (h5) ?_|fail);simp[zk,V.wk,V.Ak,zd,Ty.view,Tm.view]
theorem QV(g:List Ty)(f:Fm)(hf:f.full<34359738368)(hs:(g.map Ty.size).sum<137438953472):PC E 121 [.s .ty g,.agg f.view] (.i (yb g f)):=by
 by_cases hg:y1 g=0;case neg=>
  have h1:=NX g (by omega);unfold yb;rw[if_pos hg];refine M.F Tryz.func121 ?_;(repeat' first|refine M.go ?_|refine M.c2 (h1) ?_|refine M.z1 4 ?_|refine M.cs ?_ ?_<;>intro h|refine M.gk ?_|fail);all_goals first
   |rfl
   |(exfalso;simp at h;exact hg h)
   |trace_state
 by_cases he:f.err=0;case neg=>
  have h1:=NX g (by omega);have h2:=JE f (by omega);have e:yb g f=f.err:=by unfold yb;rw[if_neg (by simp[hg])];unfold w4;rw[if_pos he]
  rw[e];rw[hg] at h1;refine M.F Tryz.func121 ?_;(repeat' first|refine M.go ?_|refine M.c2 (h1) ?_|refine M.c2 (h2) ?_|refine M.z1 7 ?_|refine M.cs ?_ ?_<;>intro h|refine M.gk ?_|fail);all_goals first
   |rfl
   |(exfalso;simp at h;exact he h)
   |trace_state
 obtain⟨g1,g2⟩:=vk hg;have h:=Zwl g f hf hg g2 (by omega) hs he;have e:yb g f=f.BJ g:=by unfold yb;rw[if_neg (by simp[hg])];unfold w4;rw[if_neg (by simp[he])]
 rw[e];exact h
theorem Ydf(lems hyps:List Fm)(tys:List Ty)(hl:∀f∈lems,f.full<30000000000)(hh:∀f∈hyps,f.full<30000000000)(ht:(tys.map Ty.size).sum<100000000000)(hll:lems.length<549755813888)(hhl:hyps.length<549755813888):
 PC E 120 [.s .fm lems,.agg [.s .ty tys,.s .fm hyps]] (.i (CU lems tys hyps)):=by
 have h1:=NX tys (by omega);unfold CU;by_cases c1:lems.length>32
 ·rw[if_pos c1];refine M.F Tryz.func120 ?_;(repeat' first|refine M.go ?_|refine M.z1 3 ?_|refine M.cs ?_ ?_<;>intro h|refine M.gk ?_|fail);all_goals first
   |rfl
   |(exfalso;simp at h;omega)
   |trace_state
 rw[if_neg c1];refine M.F Tryz.func120 ?_;(repeat' first|refine M.gw ?_|refine M.cs ?_ ?_<;>intro h|fail)
 ·exfalso;simp at h;omega
 refine AW.range lems.length (fun m=>∀j (hj:j<lems.length),j<m->yb [] lems[j]=0)
  (fun m=>([(3,.ptr 0 0),(15,.s .fm lems),(16,.i lems.length),(17,.i m)],⟨1,[(0,.var [.s .ty tys,.s .fm hyps])]⟩))
  (by omega) (fun m=>rfl) (fun m=>rfl) rfl (fun j hj h=>by omega) (M.W [some 0]) ?_ ?_
 ·intro m hm hP;have hc:=QV [] lems[m] (by have:=hl _ (List.getElem_mem hm);omega) (by simp);by_cases hx:yb [] lems[m]=0
  ·rw[hx] at hc;(repeat' first|refine M.gw ?_|refine M.c2 (hc) ?_|fail);exact⟨rfl,z4 (p:=fun f=>yb [] f=0) hm hP hx,(M.W [some 0])⟩
  ·have e:=yr hm hP hx;rw[e,if_pos hx];(repeat' first|refine M.gw ?_|refine M.c2 (hc) ?_|refine M.cs ?_ ?_<;>intro h|fail);all_goals first
    |rfl
    |(exfalso;rename_i h5;simp at h5;exact hx h5)
    |(exfalso;simp at h;exact hx h)
    |trace_state
 ·intro hP;rw[yd fun j hj _=>hP j hj hj,if_neg (by simp)];by_cases c2:y1 tys=0;case neg=>
   rw[if_pos c2];(repeat' first|refine M.go ?_|refine M.c2 (h1) ?_|refine M.z1 13 ?_|refine M.cs ?_ ?_<;>intro h|refine M.gk ?_|fail);all_goals first
    |rfl
    |(exfalso;simp at h;exact c2 h)
    |trace_state
  rw[if_neg (by simp[c2])];rw[c2] at h1;by_cases c3:hyps.length>16
  ·rw[if_pos c3];(repeat' first|refine M.go ?_|refine M.c2 (h1) ?_|refine M.z1 15 ?_|refine M.cs ?_ ?_<;>intro h|refine M.gk ?_|fail);all_goals first
    |rfl
    |(exfalso;simp at h;omega)
    |trace_state
  rw[if_neg c3];(repeat' first|refine M.gw ?_|refine M.c2 (h1) ?_|refine M.cs ?_ ?_<;>intro h|fail)
  ·exfalso;simp at h;omega
  refine AW.range hyps.length (fun m=>∀j (hj:j<hyps.length),j<m->yb tys hyps[j]=0)
   (fun m=>([(3,.ptr 0 0),(38,.s .fm hyps),(39,.i hyps.length),(40,.i m)],⟨1,[(0,.var [.s .ty tys,.s .fm hyps])]⟩))
   (by omega) (fun m=>rfl) (fun m=>rfl) rfl (fun j hj h=>by omega) (M.W [some 0]) ?_ ?_
  ·intro m hm hP2;have hc:=QV tys hyps[m] (by have:=hh _ (List.getElem_mem hm);omega) (by omega);by_cases hx:yb tys hyps[m]=0
   ·rw[hx] at hc;(repeat' first|refine M.gw ?_|refine M.c2 (hc) ?_|fail);exact⟨rfl,z4 (p:=fun f=>yb tys f=0) hm hP2 hx,(M.W [some 0])⟩
   ·have e:=yr hm hP2 hx;rw[e];(repeat' first|refine M.gw ?_|refine M.c2 (hc) ?_|refine M.cs ?_ ?_<;>intro h|fail);all_goals first
     |rfl
     |(exfalso;rename_i h5;simp at h5;exact hx h5)
     |(exfalso;simp at h;exact hx h)
     |trace_state
  ·intro hP2;rw[yd fun j hj _=>hP2 j hj hj];(repeat' first|refine M.gw ?_|fail)
   rfl
theorem Znn(lems hyps:List Fm)(tys:List Ty)(f:Fm)(hl:∀f∈lems,f.full<30000000000)(hh:∀f∈hyps,f.full<30000000000)(ht:(tys.map Ty.size).sum<100000000000)(hll:lems.length<549755813888)(hhl:hyps.length<549755813888)(hf:f.full<30000000000):
 PC E 60 [.s .fm lems,.agg [.s .ty tys,.s .fm hyps,.i f.kind,.i f.ty.kind,.s .ty f.ty.args,.s .tm f.terms,.s .fm f.args]] (.i (if CU lems tys hyps≠0 then CU lems tys hyps else yb tys f)):=by
 have h1:=Ydf lems hyps tys hl hh ht hll hhl;have h2:=QV tys f (by omega) (by omega);generalize CU lems tys hyps=e at*;by_cases he:e=0
 ·subst he;rw[if_neg (by simp)];refine M.F Tryz.func60 ?_;(repeat' first|refine M.gw ?_|refine M.c2 (h1) ?_|refine M.c2 (h2) ?_|fail);all_goals first
   |rfl
   |trace_state
 ·rw[if_pos he];refine M.F Tryz.func60 ?_;(repeat' first|refine M.go ?_|refine M.c2 (h1) ?_|refine M.z1 4 ?_|refine M.cs ?_ ?_<;>intro h|refine M.gk ?_|fail);all_goals first
   |rfl
   |(exfalso;simp at h;exact he h)
   |trace_state
theorem Zmw(lems hyps:List Fm)(tys:List Ty)(f:Fm)(hl:∀f∈lems,f.full<30000000000)(hh:∀f∈hyps,f.full<30000000000)(ht:(tys.map Ty.size).sum<100000000000)(hll:lems.length<549755813888)(hhl:hyps.length<549755813888)(hf:f.full<30000000000):
 PC E 65 [.s .fm lems,.agg [.s .ty tys,.s .fm hyps,.i f.kind,.i f.ty.kind,.s .ty f.ty.args,.s .tm f.terms,.s .fm f.args]] (.i (if CU lems tys hyps≠0 then CU lems tys hyps else yb tys f)):=by
 have h1:=Tq lems hyps tys (fun f h=>by have:=hl f h;omega) (fun f h=>by have:=hh f h;omega) (by omega) hll hhl;have h2:=K6 tys f (by omega) (by omega);generalize CU lems tys hyps=e at*;by_cases he:e=0
 ·subst he;rw[if_neg (by simp)];refine M.F Tryz.func65 ?_;(repeat' first|refine M.gw ?_|refine M.c2 (h1) ?_|refine M.c2 (h2) ?_|fail);all_goals first
   |rfl
   |trace_state
 ·rw[if_pos he];refine M.F Tryz.func65 ?_;(repeat' first|refine M.go ?_|refine M.c2 (h1) ?_|refine M.z1 4 ?_|refine M.cs ?_ ?_<;>intro h|refine M.gk ?_|fail);all_goals first
   |rfl
   |(exfalso;simp at h;exact he h)
   |trace_state
end Go.Ab
