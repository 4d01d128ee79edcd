/- A part of the proofs of this seat. No conditions. -/
import Derived.Test.YtjgokiomgcfclaaGreatDoorST1
namespace Go.Ab
open Go Go.Proofs
set_option maxRecDepth 100000
set_option maxHeartbeats 4000000
set_option linter.all false
section
variable {c:Ck} (hc:c.ok) {p q:Pf} {r0 r1:Rs}
include hc
theorem UG{k:Int}(hk:k=11\/k=15){f0 f1:Fm}{u0 u1:List Int}{e0 e1:Int}(hr0:r0 c=(f0,u0,e0))(hr1:HY r1 c f0=(f1,u1,e1))
 (hp:PC E 45 [.agg c.view,.agg p.view] (DU f0 u0 e0)) (o0:F5 c (f0,u0,e0))
 (hq:((c.below [f0.ty]).AA (f0.args.getD 0 AG)).ok->PC E 45 [.agg ((c.below [f0.ty]).AA (f0.args.getD 0 AG)).view,.agg q.view] (DU f1 u1 e1))
 (o1:((c.below [f0.ty]).AA (f0.args.getD 0 AG)).ok->F5 ((c.below [f0.ty]).AA (f0.args.getD 0 AG)) (f1,u1,e1)):
 PC E 153 [.agg c.view,.agg (Pf.mk k 0 (.mk 0 []) [] [] [p,q]).view] (Cv (MR k r0 r1 c)):=by
 have hl:=hc.len;have hn:=hc.nh;have b0:=GQ hc o0;unfold MR;rw[hr0];simp only[hr1];by_cases he:e0=0;case neg=>
  rw[if_pos he];refine M.F Tryz.func153 ?_;(repeat' first|refine M.go ?_|refine M.c2 (hp) ?_|refine M.z1 4 ?_|refine M.cs ?_ ?_<;>intro h|refine M.gk ?_|fail);all_goals first
   |rfl
   |(exfalso;simp at h;exact he h)
   |trace_state
 subst he;rw[if_neg (by simp)];have ho:=o0.1 rfl;have s0:=(Fm.Ae _).1 ho.1;by_cases hkd:f0.kind=kI k 15 7 5;case neg=>
  rw[if_pos hkd];rcases hk with rfl|rfl;all_goals
   refine M.F Tryz.func153 ?_;(repeat' first|refine M.go ?_|refine M.c2 (hp) ?_|refine M.z1 9 ?_|refine M.cs ?_ ?_<;>intro h|refine M.gk ?_|fail);all_goals first
    |rfl
    |(exfalso;simp at h;exact hkd h)
    |trace_state
 rw[if_neg (by simp[hkd])];have hkk:4<=f0.kind/\f0.kind<=7:=by rw[hkd,kI];split<;>omega
 obtain⟨x,e⟩:=HP s0.1 hkk;have hx:f0.args.getD 0 AG=x:=by simp only at e;rw[e];rfl
 have hte:=I2 s0.1 hkk;have ex:=uf ho.1 (x:=x) (by simp only at e;rw[show(f0,u0,(0:Int)).1=f0 from rfl,e];simp[Bp]);have ok0:=ho.2.1;simp only at e hte ok0;rw[e] at ok0;have o1':=JQ hkk ok0;rw[hx] at hq o1;clear ok0 hr1 hr0 s0 hx;generalize f0.ty=s at*;rw[hkd] at e;subst e;have h1:=Nz c 1 1 (by omega) (by omega);by_cases hr:c.room 1 1=0;case neg=>
  rw[if_pos hr];rw[Mq hr] at h1;rcases hk with rfl|rfl;all_goals
   simp only[kI] at*;refine M.F Tryz.func153 ?_;(repeat' first|refine M.gw ?_|refine M.c2 (hp) ?_|refine M.c2 (h1) ?_|fail);all_goals first
    |rfl
    |trace_state
 rw[if_neg (by simp[hr])];have hro:=vk hr;rw[hr] at h1;have hb:((c.below [s]).AA x).ok:=(hc.below (l:=[s]) hro.1 (by simpa using hte)).AA (by simpa[Ck.below] using hro.2) ex o1';have h2:=Pp c hc [s] (by simp) (by simp);have h3:=O1 (c.below [s]) x (by simp[Ck.below];omega);have h4:=hq hb;have o1b:=o1 hb;have b1:=GQ hb o1b;by_cases he1:e1=0;case neg=>
  rw[if_pos he1];rcases hk with rfl|rfl;all_goals
   simp only[kI] at*;refine M.F Tryz.func153 ?_;(repeat' first|refine M.go ?_|refine M.c2 (hp) ?_|refine M.c2 (h1) ?_|refine M.c2 (h2) ?_|refine M.c2 (h3) ?_|refine M.c2 (h4) ?_|refine M.z1 15 ?_|refine M.cs ?_ ?_<;>intro h|refine M.gk ?_|fail);all_goals first
    |rfl
    |(exfalso;simp at h;exact he1 h)
    |trace_state
 subst he1;rw[if_neg (by simp)];have hf1:=o1b.1 rfl;simp only at hf1;have s1:=(Fm.Ae _).1 hf1.1;have h5:=Yj _ f1 0 (Nat.le_refl _) (by omega) (by omega) (by omega) s1.1;have hu:=Y4 u1;have hou:=PA u1 1 (by omega) (by omega) b1.2.2;have hol:=PB u1 1;have hun:=Ik u0 (Ee u1 1) (by omega) (by omega);have h6:=Zyl _ f1 (Nat.le_refl _) (by omega);by_cases t0:xy 0 f1=0;case pos=>
  have ef:ES f1=(f1,0):=by unfold ES;rw[if_pos t0]
  rw[ef];rw[decide_eq_false (by simp[t0])] at h5;have h7:=h6;have hup:=F9 (hf1.2.1) s1.1 (by omega) (by simp[Ck.below,Ck.AA];omega) 1 (-1) (by omega) (by omega);rw[if_neg (by simp)];rcases hk with rfl|rfl
  ·rw[if_neg (by simp)];simp only[kI] at*;refine M.F Tryz.func153 ?_;(repeat' first|refine M.gw ?_|refine M.c2 (hp) ?_|refine M.c2 (h1) ?_|refine M.c2 (h2) ?_|refine M.c2 (h3) ?_|refine M.c2 (h4) ?_|refine M.c2 (h5) ?_|refine M.c2 (hup) ?_|refine M.c2 (hou) ?_|refine M.c2 (hun) ?_|fail);all_goals first
    |rfl
    |trace_state
  ·simp only[kI] at*;cases hh:K7 u1 with
   |true=>
    rw[hh] at hu;rw[if_pos (by simp)];refine M.F Tryz.func153 ?_;(repeat' first|refine M.gw ?_|refine M.c2 (hp) ?_|refine M.c2 (h1) ?_|refine M.c2 (h2) ?_|refine M.c2 (h3) ?_|refine M.c2 (h4) ?_|refine M.c2 (h5) ?_|refine M.c2 (hu) ?_|fail);all_goals first
     |rfl
     |trace_state
   |false=>
    rw[hh] at hu;rw[if_neg (by simp)];refine M.F Tryz.func153 ?_;(repeat' first|refine M.gw ?_|refine M.c2 (hp) ?_|refine M.c2 (h1) ?_|refine M.c2 (h2) ?_|refine M.c2 (h3) ?_|refine M.c2 (h4) ?_|refine M.c2 (h5) ?_|refine M.c2 (hu) ?_|refine M.c2 (hup) ?_|refine M.c2 (hou) ?_|refine M.c2 (hun) ?_|fail);all_goals first
     |rfl
     |trace_state
 rw[decide_eq_true t0] at h5;by_cases n0:(wy f1).2=0;case neg=>
  have ef:ES f1=(AG,(wy f1).2):=by unfold ES;rw[if_neg t0,if_pos n0]
  rw[ef,if_pos n0];rcases hk with rfl|rfl;all_goals
   simp only[kI] at*;refine M.F Tryz.func153 ?_;(repeat' first|refine M.go ?_|refine M.c2 (hp) ?_|refine M.c2 (h1) ?_|refine M.c2 (h2) ?_|refine M.c2 (h3) ?_|refine M.c2 (h4) ?_|refine M.c2 (h5) ?_|refine M.c2 (h6) ?_|refine M.z1 20 ?_|refine M.cs ?_ ?_<;>intro h|refine M.gk ?_|fail);all_goals first
    |rfl
    |(exfalso;simp at h;exact n0 h)
    |trace_state
 rw[n0] at h6;obtain⟨nk,ns,nz,no⟩:=XE f1 n0 s1.1;have nfl:=Jv (wy f1).1 ns;have h7:=Yj _ (wy f1).1 0 (Nat.le_refl _) (by omega) (by omega) (by omega) ns;by_cases n1:xy 0 (wy f1).1=0;case neg=>
  have ef:ES f1=(AG,6):=by unfold ES;rw[if_neg t0,if_neg (by simp[n0]),if_pos n1]
  rw[ef,if_pos (by decide)];rw[decide_eq_true n1] at h7;rcases hk with rfl|rfl;all_goals
   simp only[kI] at*;refine M.F Tryz.func153 ?_;(repeat' first|refine M.gw ?_|refine M.c2 (hp) ?_|refine M.c2 (h1) ?_|refine M.c2 (h2) ?_|refine M.c2 (h3) ?_|refine M.c2 (h4) ?_|refine M.c2 (h5) ?_|refine M.c2 (h6) ?_|refine M.c2 (h7) ?_|fail);all_goals first
    |rfl
    |trace_state
 case pos=>
  have ef:ES f1=((wy f1).1,0):=by unfold ES;rw[if_neg t0,if_neg (by simp[n0]),if_neg (by simp[n1])]
  rw[ef];rw[decide_eq_false (by simp[n1])] at h7;have hup:=F9 (no _ hf1.2.1) ns (by omega) (by simp[Ck.below,Ck.AA];omega) 1 (-1) (by omega) (by omega);rw[if_neg (by simp)];rcases hk with rfl|rfl
  ·rw[if_neg (by simp)];simp only[kI] at*;refine M.F Tryz.func153 ?_;(repeat' first|refine M.gw ?_|refine M.c2 (hp) ?_|refine M.c2 (h1) ?_|refine M.c2 (h2) ?_|refine M.c2 (h3) ?_|refine M.c2 (h4) ?_|refine M.c2 (h5) ?_|refine M.c2 (h6) ?_|refine M.c2 (h7) ?_|refine M.c2 (hup) ?_|refine M.c2 (hou) ?_|refine M.c2 (hun) ?_|fail);all_goals first
    |rfl
    |trace_state
  ·simp only[kI] at*;cases hh:K7 u1 with
   |true=>
    rw[hh] at hu;rw[if_pos (by simp)];refine M.F Tryz.func153 ?_;(repeat' first|refine M.gw ?_|refine M.c2 (hp) ?_|refine M.c2 (h1) ?_|refine M.c2 (h2) ?_|refine M.c2 (h3) ?_|refine M.c2 (h4) ?_|refine M.c2 (h5) ?_|refine M.c2 (h6) ?_|refine M.c2 (h7) ?_|refine M.c2 (hu) ?_|fail);all_goals first
     |rfl
     |trace_state
   |false=>
    rw[hh] at hu;rw[if_neg (by simp)];refine M.F Tryz.func153 ?_;(repeat' first|refine M.gw ?_|refine M.c2 (hp) ?_|refine M.c2 (h1) ?_|refine M.c2 (h2) ?_|refine M.c2 (h3) ?_|refine M.c2 (h4) ?_|refine M.c2 (h5) ?_|refine M.c2 (h6) ?_|refine M.c2 (h7) ?_|refine M.c2 (hu) ?_|refine M.c2 (hup) ?_|refine M.c2 (hou) ?_|refine M.c2 (hun) ?_|fail);all_goals first
     |rfl
     |trace_state
end
section
variable {c:Ck} (hc:c.ok) {p q:Pf} {r0 r1:Rs}
include hc
theorem Yfc{f:Fm}{f0:Fm}{u0:List Int}{e0:Int}(hr0:r0 c=(f0,u0,e0))(hf:f.full<=300000)
 (hp:PC E 45 [.agg c.view,.agg p.view] (DU f0 u0 e0)) (o0:F5 c (f0,u0,e0))
 (hpb:∀t:Tm,t.full<=300000->PC E 221 [.agg c.view,.agg q.view,.agg f.view,.agg t.view] (.At [.s .int (xr r1 c f t).1,.i (xr r1 c f t).2])):
 PC E 157 [.agg c.view,.agg (Pf.mk 19 0 (.mk 0 []) [] [f] [p,q]).view] (Cv (MD f r0 r1 c)):=by
 have hl:=hc.len;have hsum:=hc.sum;have h1:=OB (c.tys++[Af]) f (by omega) (hc.one IQ) (by simp;omega);have h5:=uq;unfold MD;rw[hr0];by_cases t0:vp (c.tys++[Af]) f=0;case neg=>
  rw[if_pos t0];refine M.F Tryz.func157 ?_;(repeat' first|refine M.go ?_|refine M.c2 (h5) ?_|refine M.c2 (h1) ?_|refine M.z1 5 ?_|refine M.cs ?_ ?_<;>intro h|refine M.gk ?_|fail);all_goals first
   |rfl
   |(exfalso;simp at h;exact t0 h)
   |trace_state
 rw[if_neg (by simp[t0])];rw[t0] at h1;by_cases he:e0=0;case neg=>
  rw[if_pos he];refine M.F Tryz.func157 ?_;(repeat' first|refine M.go ?_|refine M.c2 (h5) ?_|refine M.c2 (h1) ?_|refine M.c2 (hp) ?_|refine M.z1 8 ?_|refine M.cs ?_ ?_<;>intro h|refine M.gk ?_|fail);all_goals first
   |rfl
   |(exfalso;simp at h;exact he h)
   |trace_state
 subst he;rw[if_neg (by simp)];by_cases hk:f0.kind=1;case neg=>
  rw[if_pos hk];refine M.F Tryz.func157 ?_;(repeat' first|refine M.go ?_|refine M.c2 (h5) ?_|refine M.c2 (h1) ?_|refine M.c2 (hp) ?_|refine M.z1 10 ?_|refine M.cs ?_ ?_<;>intro h|refine M.gk ?_|fail);all_goals first
   |rfl
   |(exfalso;simp at h;exact hk h)
   |trace_state
 rw[if_neg (by simp[hk])];have ho:=o0.1 rfl;obtain⟨x,y,e⟩:=SF ((Fm.Ae _).1 ho.1).1 hk;simp only at e;subst e;have ex:=ZE ho.1 (t:=x) (by simp[AV]);have ey:=ZE ho.1 (t:=y) (by simp[AV]);have h2:=hpb x (by have:=yo ex;omega);have h3:=K6 f y (by omega) (by have:=yo ey;omega);have e1:((AV x y).terms.getD 0 AU)=x:=rfl;have e2:((AV x y).terms.getD 1 AU)=y:=rfl;simp only[e1,e2];generalize xr r1 c f x=a at*;by_cases ea:a.2=0;case neg=>
  rw[if_pos ea];refine M.F Tryz.func157 ?_;(repeat' first|refine M.go ?_|refine M.c2 (h5) ?_|refine M.c2 (h1) ?_|refine M.c2 (hp) ?_|refine M.c2 (h2) ?_|refine M.z1 13 ?_|refine M.cs ?_ ?_<;>intro h|refine M.gk ?_|fail);all_goals first
   |rfl
   |(exfalso;simp at h;exact ea h)
   |trace_state
 rw[if_neg (by simp[ea])];rw[ea] at h2;refine M.F Tryz.func157 ?_;(repeat' first|refine M.gw ?_|refine M.c2 (h5) ?_|refine M.c2 (h1) ?_|refine M.c2 (hp) ?_|refine M.c2 (h2) ?_|refine M.c2 (h3) ?_|fail);all_goals first
  |rfl
  |trace_state
theorem Zza{f0:Fm}{u0:List Int}{e0:Int}(hr0:r0 c=(f0,u0,e0))
 (hp:PC E 45 [.agg c.view,.agg p.view] (DU f0 u0 e0)) (o0:F5 c (f0,u0,e0)):
 PC E 158 [.agg c.view,.agg (Pf.mk 20 0 (.mk 0 []) [] [] [p]).view] (Cv (NT r0 c)):=by
 have hl:=hc.len;unfold NT;rw[hr0];by_cases he:e0=0;case neg=>
  rw[if_pos he];refine M.F Tryz.func158 ?_;(repeat' first|refine M.go ?_|refine M.c2 (hp) ?_|refine M.z1 4 ?_|refine M.cs ?_ ?_<;>intro h|refine M.gk ?_|fail);all_goals first
   |rfl
   |(exfalso;simp at h;exact he h)
   |trace_state
 subst he;rw[if_neg (by simp)];have ho:=o0.1 rfl;have s0:=(Fm.Ae _).1 ho.1;by_cases hk:f0.kind=4;case neg=>
  rw[if_pos (.inl hk)];refine M.F Tryz.func158 ?_;(repeat' first|refine M.go ?_|refine M.c2 (hp) ?_|refine M.gs ?_ ?_<;>intro h|refine M.z1 6 ?_|refine M.cs ?_ ?_<;>intro h|refine M.gk ?_|fail);all_goals first
   |rfl
   |(exfalso;simp at h;exact hk h)
   |(exfalso;rename_i h1;simp at h1;exact hk h1)
   |trace_state
 obtain⟨x,e⟩:=HP s0.1 (by simp only;omega);have hte:=I2 s0.1 (by simp only;omega);simp only at e hte;have ex:=uf ho.1 (x:=x) (by rw[show(f0,u0,(0:Int)).1=f0 from rfl,e];simp[Bp]);have sx:=(Fm.Ae _).1 ex;have ok0:=ho.2.1;simp only at ok0;generalize f0.ty=s at*;rw[hk] at e;subst e;have e1:((Bp 4 s x).args.getD 0 AG)=x:=rfl;have o1:=JQ (by omega) ok0;by_cases hk2:x.kind=5;case neg=>
  rw[if_pos (.inr (by rw[e1];exact hk2))];refine M.F Tryz.func158 ?_;(repeat' first|refine M.go ?_|refine M.c2 (hp) ?_|refine M.z1 6 ?_|refine M.cs ?_ ?_<;>intro h|refine M.gk ?_|fail);all_goals first
   |rfl
   |(exfalso;simp at h;exact hk2 h)
   |trace_state
 rw[if_neg (by rintro(h|h);exact h hk;exact h (by rw[e1];exact hk2))];obtain⟨y,e⟩:=HP sx.1 (by omega);have hte2:=I2 sx.1 (by omega);have ey:=uf ex (x:=y) (by rw[e];simp[Bp]);have sy:=(Fm.Ae _).1 ey;generalize x.ty=u at*;rw[hk2] at e;subst e;have o2:=JQ (by omega) o1;have zs:=((Ty.Ae s).1 hte).2;have zu:=((Ty.Ae u).1 hte2).2;have h1:=JO s u (by omega) (by omega);have h2:=LQ (yt s u) (by simp only[yt,Ty.size,Ty.sizes];omega);have e2:NW (Bp 4 s (Bp 5 u y))=yt s u:=rfl;have e3:NC (Bp 4 s (Bp 5 u y))=Dy (y.Bd 2 1) EZ:=rfl;simp only[e2,e3];by_cases ef:(yt s u).err=0;case neg=>
  rw[if_pos ef];refine M.F Tryz.func158 ?_;(repeat' first|refine M.go ?_|refine M.c2 (hp) ?_|refine M.c2 (h1) ?_|refine M.c2 (h2) ?_|refine M.z1 10 ?_|refine M.cs ?_ ?_<;>intro h|refine M.gk ?_|fail);all_goals first
   |rfl
   |(exfalso;simp at h;exact ef h)
   |trace_state
 rw[if_neg (by simp[ef])];rw[ef] at h2;have h3:=F9 o2 sy.1 (by omega) (by simp;omega) 2 1 (by omega) (by omega);have h4:=Er 1;have h4':=Er 0;have h5:=CW 3 [vT 1,vT 0] (by simp[vT,Tm.full,Tm.As,Ty.size,Ty.sizes]);have hlf:=Kt sy.1 (fr:=2) (by_:=1) (by omega);have h6:=K6 (y.Bd 2 1) EZ (by rw[hlf.2.2];have:=ye ey;omega) (by decide);have hb:=VM (y.Bd 2 1) EZ;have h7:=Gx 4 s (Dy (y.Bd 2 1) EZ).1 (by omega) (by omega);have h8:=Gx 5 (yt s u) (.mk 4 s [] [(Dy (y.Bd 2 1) EZ).1]) (by simp only[yt,Ty.size,Ty.sizes];omega) (by simp only[Fm.full,Fm.As,List.map_nil,List.sum_nil];omega);refine M.F Tryz.func158 ?_;(repeat' first|refine M.gw ?_|refine M.c2 (hp) ?_|refine M.c2 (h1) ?_|refine M.c2 (h2) ?_|refine M.c2 (h3) ?_|refine M.c2 (h4) ?_|refine M.c2 (h4') ?_|refine M.c2 (h5) ?_|refine M.c2 (h6) ?_|refine M.c2 (h7) ?_|refine M.c2 (h8) ?_|fail);all_goals first
  |rfl
  |trace_state
end
section
variable {c:Ck} (hc:c.ok) {p q:Pf} {r0 r1:Rs}
include hc
theorem Yj4{f:Fm}{t:Tm}(hf:f.full<=300000)(ht:t.full<=300000)
 (hpa:PC E 221 [.agg c.view,.agg p.view,.agg f.view,.agg Ds.view] (.At [.s .int (xr r0 c f Ds).1,.i (xr r0 c f Ds).2]))
 (hpb:((c.below [Af,Al]).AA (f.Bd 1 1)).ok->PC E 221 [.agg ((c.below [Af,Al]).AA (f.Bd 1 1)).view,.agg q.view,.agg (f.Bd 1 2).view,.agg Cf.view] (.At [.s .int (xr r1 ((c.below [Af,Al]).AA (f.Bd 1 1)) (f.Bd 1 2) Cf).1,.i (xr r1 ((c.below [Af,Al]).AA (f.Bd 1 1)) (f.Bd 1 2) Cf).2]))
 (hua:Be c.tys.length (xr r0 c f Ds).1) (hub:((c.below [Af,Al]).AA (f.Bd 1 1)).ok->Be (c.tys.length+2) (xr r1 ((c.below [Af,Al]).AA (f.Bd 1 1)) (f.Bd 1 2) Cf).1):
 PC E 155 [.agg c.view,.agg (Pf.mk 17 0 (.mk 0 []) [t] [f] [p,q]).view] (Cv (L4 f t r0 r1 c)):=by
 have hl:=hc.len;have hn:=hc.nh;have hsum:=hc.sum;have hul:=hua.len;have h1:=OB (c.tys++[Al]) f (by omega) (hc.one Nf) (by simp;omega);have h2:=R5 c t 2 (by omega) (by omega);have h3:=CW 7 [] (by simp);have h4:=Nz c 2 1 (by omega) (by omega);have h5:=uq;have h6:=Pp c hc [Af,Al] (by simp) (by simp);have h7:=O1 (c.below [Af,Al]) (f.Bd 1 1) (by simp[Ck.below];omega);have h9:=Er 0;have h9':=Er 1;have h5':=Fp;have h10:=CW 8 [vT 1,vT 0] (by simp[vT,Tm.full,Tm.As,Ty.size,Ty.sizes]);have h11:=K6 f t (by omega) (by omega);unfold L4;generalize hA:xr r0 c f Ds=a at*;generalize hB:xr r1 ((c.below [Af,Al]).AA (f.Bd 1 1)) (f.Bd 1 2) Cf=b at*;by_cases e0:vp (c.tys++[Al]) f=0;case neg=>
  rw[if_pos e0];refine M.F Tryz.func155 ?_;(repeat' first|refine M.go ?_|refine M.c2 (h5') ?_|refine M.c2 (h1) ?_|refine M.z1 5 ?_|refine M.cs ?_ ?_<;>intro h|refine M.gk ?_|fail);all_goals first
   |rfl
   |(exfalso;simp at h;exact e0 h)
   |trace_state
 rw[if_neg (by simp[e0])];rw[e0] at h1;obtain⟨f1,f2⟩:=LC (hc.one Nf) e0;have s0:=(Fm.Ae _).1 f1;by_cases e1:Fu c t 2=0;case neg=>
  rw[if_pos e1];refine M.F Tryz.func155 ?_;(repeat' first|refine M.go ?_|refine M.c2 (h5') ?_|refine M.c2 (h1) ?_|refine M.c2 (h2) ?_|refine M.z1 8 ?_|refine M.cs ?_ ?_<;>intro h|refine M.gk ?_|fail);all_goals first
   |rfl
   |(exfalso;simp at h;exact e1 h)
   |trace_state
 rw[if_neg (by simp[e1])];rw[e1] at h2;obtain⟨te,ti⟩:=Xx e1;by_cases e2:a.2=0;case neg=>
  rw[if_pos e2];refine M.F Tryz.func155 ?_;(repeat' first|refine M.go ?_|refine M.c2 (h5') ?_|refine M.c2 (h1) ?_|refine M.c2 (h2) ?_|refine M.c2 (h3) ?_|refine M.c2 (hpa) ?_|refine M.z1 11 ?_|refine M.cs ?_ ?_<;>intro h|refine M.gk ?_|fail);all_goals first
   |rfl
   |(exfalso;simp at h;exact e2 h)
   |trace_state
 rw[if_neg (by simp[e2])];rw[e2] at hpa;by_cases e3:c.room 2 1=0;case neg=>
  rw[if_pos e3];rw[Mq e3] at h4;refine M.F Tryz.func155 ?_;(repeat' first|refine M.gw ?_|refine M.c2 (h5') ?_|refine M.c2 (h1) ?_|refine M.c2 (h2) ?_|refine M.c2 (h3) ?_|refine M.c2 (hpa) ?_|refine M.c2 (h4) ?_|fail);all_goals first
   |rfl
   |trace_state
 rw[if_neg (by simp[e3])];rw[e3] at h4;have hr:=vk e3;have hb:((c.below [Af,Al]).AA (f.Bd 1 1)).ok:=(hc.below (l:=[Af,Al]) hr.1 (by simp[IQ,Nf])).AA (by simpa[Ck.below] using hr.2) (Na f1 (by omega)) (by simpa[Ck.below] using KG (g:=c.tys) (h:=[Al]) [Af] s0.1 f2);have h8:=F9 f2 s0.1 (by omega) (by simp;omega) 1 1 (by omega) (by omega);have h8':=F9 f2 s0.1 (by omega) (by simp;omega) 1 2 (by omega) (by omega);have h12:=hpb hb;have hub':=hub hb;by_cases e4:b.2=0;case neg=>
  rw[if_pos e4];refine M.F Tryz.func155 ?_;(repeat' first|refine M.go ?_|refine M.c2 (h5) ?_|refine M.c2 (h5') ?_|refine M.c2 (h1) ?_|refine M.c2 (h2) ?_|refine M.c2 (h3) ?_|refine M.c2 (hpa) ?_|refine M.c2 (h4) ?_|refine M.c2 (h6) ?_|refine M.c2 (h7) ?_|refine M.c2 (h8) ?_|refine M.c2 (h8') ?_|refine M.c2 (h9) ?_|refine M.c2 (h9') ?_|refine M.c2 (h10) ?_|refine M.c2 (h12) ?_|refine M.z1 17 ?_|refine M.cs ?_ ?_<;>intro h|refine M.gk ?_|fail);all_goals first
   |rfl
   |(exfalso;simp at h;exact e4 h)
   |trace_state
 rw[if_neg (by simp[e4])];rw[e4] at h12;have hfr:=O2 t te ti (by omega);have hfl:=(HH ti).len;have hun:=Ik (Fq t) a.1 (by omega) (by omega);have hlu:Be c.tys.length (ur (Fq t) a.1):= .union (HH ti).2 hua.2;have hll:=hlu.len;have hbl:=hub'.len;have hou:=PA b.1 2 (by omega) (by omega) (fun x hx=>by have:=hub'.2 x hx;omega);have hol:=PB b.1 2;have hun2:=Ik (ur (Fq t) a.1) (Ee b.1 2) (by omega) (by omega);refine M.F Tryz.func155 ?_;(repeat' first|refine M.gw ?_|refine M.c2 (h5) ?_|refine M.c2 (h5') ?_|refine M.c2 (h1) ?_|refine M.c2 (h2) ?_|refine M.c2 (h3) ?_|refine M.c2 (hpa) ?_|refine M.c2 (h4) ?_|refine M.c2 (h6) ?_|refine M.c2 (h7) ?_|refine M.c2 (h8) ?_|refine M.c2 (h8') ?_|refine M.c2 (h9) ?_|refine M.c2 (h9') ?_|refine M.c2 (h10) ?_|refine M.c2 (h12) ?_|refine M.c2 (h11) ?_|refine M.c2 (hfr) ?_|refine M.c2 (hun) ?_|refine M.c2 (hou) ?_|refine M.c2 (hun2) ?_|fail);all_goals first
  |rfl
  |trace_state
end
def MX(p:Pf):Prop:=∀c:Ck,c.ok->PC E 45 [.agg c.view,.agg p.view] (DU (Ci p c).1 (Ci p c).2.1 (Ci p c).2.2)
def Zb(p:Pf):Prop:=p.shape=true/\p.small=true
theorem Zn3{p:Pf}(h:p.small=true):(∀t∈p.terms,t.size<=4096)/\(∀f∈p.Ad,f.size<=4096)/\∀x∈p.args,x.small=true:=by
 rw[p.B6] at h;simp only[Bool.and_eq_true,List.all_eq_true,decide_eq_true_eq] at h;exact⟨h.1.1,h.1.2,h.2⟩
theorem Zuw{p:Pf}{c:Ck}(hc:c.ok)(hr:ud c (Iy p.kind p.index p.ty p.terms p.Ad (p.args.map Ci) c))
 (hrl:PC E 93 [.agg c.view,.agg p.view] (Cv (Iy p.kind p.index p.ty p.terms p.Ad (p.args.map Ci) c))):
 PC E 45 [.agg c.view,.agg p.view] (DU (Ci p c).1 (Ci p c).2.1 (Ci p c).2.2):=by
 rw[Sj];generalize Iy p.kind p.index p.ty p.terms p.Ad (p.args.map Ci) c=r at*;obtain⟨f,u,e⟩:=r;unfold KJ;by_cases he:e=0;case neg=>
  rw[if_pos he];refine M.F Tryz.func45 ?_;(repeat' first|refine M.go ?_|refine M.c2 (hrl) ?_|refine M.z1 4 ?_|refine M.cs ?_ ?_<;>intro h|refine M.gk ?_|fail);all_goals first
   |rfl
   |(exfalso;simp at h;exact he h)
   |trace_state
 subst he;rw[if_neg (by simp)];obtain⟨r1,r2,r3,r4⟩:=hr rfl;simp only at r1 r2;have hfl:=Jv f r1;have h1:=vq f (by omega);by_cases hf:f.err=0;case neg=>
  rw[if_pos hf];refine M.F Tryz.func45 ?_;(repeat' first|refine M.go ?_|refine M.c2 (hrl) ?_|refine M.c2 (h1) ?_|refine M.z1 6 ?_|refine M.cs ?_ ?_<;>intro h|refine M.gk ?_|fail);all_goals first
   |rfl
   |(exfalso;simp at h;exact hf h)
   |trace_state
 rw[if_neg (by simp[hf])];have h2:=Zvd f hf;rw[hf] at h1;cases hcf:Eu f with
 |true=>
  rw[hcf] at h2;rw[if_pos rfl];refine M.F Tryz.func45 ?_;(repeat' first|refine M.gw ?_|refine M.c2 (hrl) ?_|refine M.c2 (h1) ?_|refine M.c2 (h2) ?_|fail);all_goals first
   |rfl
   |trace_state
 |false=>
  rw[hcf] at h2;rw[if_neg (by simp)];refine M.F Tryz.func45 ?_;(repeat' first|refine M.gw ?_|refine M.c2 (hrl) ?_|refine M.c2 (h1) ?_|refine M.c2 (h2) ?_|fail);all_goals first
   |rfl
   |trace_state
theorem Ydg{t:Tm}(hs:t.shape=true)(hz:t.size<=4096):t.full<=300000:=by have:=KV t hs;omega
theorem Yej{f:Fm}(hs:f.shape=true)(hz:f.size<=4096):f.full<=300000:=by have:=Jv f hs;omega
section
variable {c:Ck}
theorem Ye8{s:Ty}{p:Pf}{r:CC}(h1:PC E 150 [.agg c.view,.agg (Pf.mk 8 0 s [] [] [p]).view] (Cv r)):PC E 93 [.agg c.view,.agg (Pf.mk 8 0 s [] [] [p]).view] (Cv r):=by
 refine M.F Tryz.func93 ?_;(repeat' first|refine M.gw ?_|refine M.c2 (h1) ?_|refine M.bl ?_|fail)
 rfl
theorem Zyj{s:Ty}{p:Pf}{r:CC}(h1:PC E 150 [.agg c.view,.agg (Pf.mk 12 0 s [] [] [p]).view] (Cv r)):PC E 93 [.agg c.view,.agg (Pf.mk 12 0 s [] [] [p]).view] (Cv r):=by
 refine M.F Tryz.func93 ?_;(repeat' first|refine M.gw ?_|refine M.c2 (h1) ?_|refine M.bl ?_|fail)
 rfl
theorem Yjo{t:Tm}{p:Pf}{r:CC}(h1:PC E 151 [.agg c.view,.agg (Pf.mk 9 0 (.mk 0 []) [t] [] [p]).view] (Cv r)):PC E 93 [.agg c.view,.agg (Pf.mk 9 0 (.mk 0 []) [t] [] [p]).view] (Cv r):=by
 refine M.F Tryz.func93 ?_;(repeat' first|refine M.gw ?_|refine M.c2 (h1) ?_|refine M.bl ?_|fail)
 rfl
theorem Yfq{t:Tm}{p:Pf}{r:CC}(h1:PC E 151 [.agg c.view,.agg (Pf.mk 13 0 (.mk 0 []) [t] [] [p]).view] (Cv r)):PC E 93 [.agg c.view,.agg (Pf.mk 13 0 (.mk 0 []) [t] [] [p]).view] (Cv r):=by
 refine M.F Tryz.func93 ?_;(repeat' first|refine M.gw ?_|refine M.c2 (h1) ?_|refine M.bl ?_|fail)
 rfl
theorem Yc2{t:Tm}{f:Fm}{p:Pf}{r:CC}(h1:PC E 152 [.agg c.view,.agg (Pf.mk 10 0 (.mk 0 []) [t] [f] [p]).view] (Cv r)):PC E 93 [.agg c.view,.agg (Pf.mk 10 0 (.mk 0 []) [t] [f] [p]).view] (Cv r):=by
 refine M.F Tryz.func93 ?_;(repeat' first|refine M.gw ?_|refine M.c2 (h1) ?_|refine M.bl ?_|fail)
 rfl
theorem Ych{t:Tm}{f:Fm}{p:Pf}{r:CC}(h1:PC E 152 [.agg c.view,.agg (Pf.mk 14 0 (.mk 0 []) [t] [f] [p]).view] (Cv r)):PC E 93 [.agg c.view,.agg (Pf.mk 14 0 (.mk 0 []) [t] [f] [p]).view] (Cv r):=by
 refine M.F Tryz.func93 ?_;(repeat' first|refine M.gw ?_|refine M.c2 (h1) ?_|refine M.bl ?_|fail)
 rfl
theorem Zvh{p q:Pf}{r:CC}(h1:PC E 153 [.agg c.view,.agg (Pf.mk 11 0 (.mk 0 []) [] [] [p,q]).view] (Cv r)):PC E 93 [.agg c.view,.agg (Pf.mk 11 0 (.mk 0 []) [] [] [p,q]).view] (Cv r):=by
 refine M.F Tryz.func93 ?_;(repeat' first|refine M.gw ?_|refine M.c2 (h1) ?_|refine M.bl ?_|fail)
 rfl
theorem Zwj{p q:Pf}{r:CC}(h1:PC E 153 [.agg c.view,.agg (Pf.mk 15 0 (.mk 0 []) [] [] [p,q]).view] (Cv r)):PC E 93 [.agg c.view,.agg (Pf.mk 15 0 (.mk 0 []) [] [] [p,q]).view] (Cv r):=by
 refine M.F Tryz.func93 ?_;(repeat' first|refine M.gw ?_|refine M.c2 (h1) ?_|refine M.bl ?_|fail)
 rfl
theorem Ybn{t:Tm}{f:Fm}{p q:Pf}{r:CC}(h1:PC E 154 [.agg c.view,.agg (Pf.mk 16 0 (.mk 0 []) [t] [f] [p,q]).view] (Cv r)):PC E 93 [.agg c.view,.agg (Pf.mk 16 0 (.mk 0 []) [t] [f] [p,q]).view] (Cv r):=by
 refine M.F Tryz.func93 ?_;(repeat' first|refine M.gw ?_|refine M.c2 (h1) ?_|refine M.bl ?_|fail)
 rfl
theorem Zwg{t:Tm}{f:Fm}{p q:Pf}{r:CC}(h1:PC E 155 [.agg c.view,.agg (Pf.mk 17 0 (.mk 0 []) [t] [f] [p,q]).view] (Cv r)):PC E 93 [.agg c.view,.agg (Pf.mk 17 0 (.mk 0 []) [t] [f] [p,q]).view] (Cv r):=by
 refine M.F Tryz.func93 ?_;(repeat' first|refine M.gw ?_|refine M.c2 (h1) ?_|refine M.bl ?_|fail)
 rfl
theorem Zrn{f:Fm}{p q:Pf}{r:CC}(h1:PC E 157 [.agg c.view,.agg (Pf.mk 19 0 (.mk 0 []) [] [f] [p,q]).view] (Cv r)):PC E 93 [.agg c.view,.agg (Pf.mk 19 0 (.mk 0 []) [] [f] [p,q]).view] (Cv r):=by
 refine M.F Tryz.func93 ?_;(repeat' first|refine M.gw ?_|refine M.c2 (h1) ?_|refine M.bl ?_|fail)
 rfl
theorem Znz{p:Pf}{r:CC}(h1:PC E 158 [.agg c.view,.agg (Pf.mk 20 0 (.mk 0 []) [] [] [p]).view] (Cv r)):PC E 93 [.agg c.view,.agg (Pf.mk 20 0 (.mk 0 []) [] [] [p]).view] (Cv r):=by
 refine M.F Tryz.func93 ?_;(repeat' first|refine M.gw ?_|refine M.c2 (h1) ?_|refine M.bl ?_|fail)
 rfl
theorem Ydd{t:Tm}(hc:c.ok)(ht:t.full<=300000):PC E 93 [.agg c.view,.agg (Pf.mk 18 0 (.mk 0 []) [t] [] []).view] (Cv (Lt t c)):=by
 have h1:=GS t t (by omega) (by omega);have h2:=R5 c t 1 (by omega) (by have:=hc.sum;omega);unfold Lt;refine M.F Tryz.func93 ?_;(repeat' first|refine M.gw ?_|refine M.c2 (h1) ?_|refine M.c2 (h2) ?_|refine M.bl ?_|fail)
 rfl
end
theorem Ye6(p:Pf):p.shape=true->p.small=true->MX p:=by
 induction p using Pf.ind with
 |h p ih=>
  intro hs hm c hc;refine Zuw hc (Ydz hs hc) ?_;obtain⟨h1,h2,h3,h4⟩:=zl hs;obtain⟨m1,m2,m3⟩:=Zn3 hm;obtain⟨nd,n1,n2,n3,n4,n5,n6,n7,n8,n9⟩:=SX hs;have hA:∀a∈p.args,MX a/\Cb (Ci a):=fun a ha=>⟨ih a ha (h4 a ha) (m3 a ha),OU a (h4 a ha)⟩;have hT:∀t∈p.terms,t.full<=300000:=fun t ht=>Ydg (h2 t ht) (m1 t ht);have hF:∀f∈p.Ad,f.full<=300000:=fun f hf=>Yej (h3 f hf) (m2 f hf);have hS:∀f∈p.Ad,f.shape=true:=h3;have hk:p.kind=1\/p.kind=2\/p.kind=3\/p.kind=4\/p.kind=5\/p.kind=6\/p.kind=7\/p.kind=8\/p.kind=9\/p.kind=10\/p.kind=11\/p.kind=12\/p.kind=13\/p.kind=14\/p.kind=15\/p.kind=16\/p.kind=17\/p.kind=18\/p.kind=19\/p.kind=20:=by omega
  clear ih hs hm h1 h2 h3 h4 m1 m2 m3 n9;obtain⟨k,i,s,ts,fs,zs⟩:=p;simp only[Pf.kind,Pf.index,Pf.ty,Pf.terms,Pf.Ad,Pf.args] at*;have hroom:c.tys.length+1<=16->∀s:Ty,s.err=0->(c.below [s]).ok:=fun h s hs=>hc.below (l:=[s]) h (by simpa using hs);rcases hk with rfl|rfl|rfl|rfl|rfl|rfl|rfl|rfl|rfl|rfl|rfl|rfl|rfl|rfl|rfl|rfl|rfl|rfl|rfl|rfl;all_goals(simp only[BX,reduceIte,Int.reduceEq,or_false,false_or,or_true,true_or,Option.some.injEq] at n1)
  all_goals(subst n1)
  all_goals(simp only[forall_const,reduceCtorEq,false_implies,Bool.true_eq_false,Bool.false_eq_true] at n2 n3 n4 n6 n7 n8)
  all_goals(first|(obtain rfl:=Sx n2)|(obtain⟨t,rfl⟩:=Sb n2))
  all_goals(first|(obtain rfl:=Sx n3)|(obtain⟨f,rfl⟩:=Sb n3))
  all_goals(first|(obtain rfl:=Sx n4)|(obtain⟨a,rfl⟩:=Sb n4)|(obtain⟨a,b,rfl⟩:=ln2 n4))
  all_goals(try subst n6)
  all_goals(try subst n8)
  ·exact Yh2 hc i n5
  ·exact Yjw hc i n5
  ·exact Yj0 hc ((hA a (by simp)).1 c hc) ((hA b (by simp)).1 c hc) ((hA a (by simp)).2 c hc) ((hA b (by simp)).2 c hc)
  ·exact WX hc 0 (by omega) ((hA a (by simp)).1 c hc) ((hA a (by simp)).2 c hc)
  ·exact WX hc 1 (by omega) ((hA a (by simp)).1 c hc) ((hA a (by simp)).2 c hc)
  ·exact Yeg hc (hF f (by simp)) (fun t0 r0=>(hA a (by simp)).1 _ (hc.AA (vk r0).2 (wj t0).1 (wj t0).2))
    (fun t0 r0=>by
     have ho:=hc.AA (vk r0).2 (wj t0).1 (wj t0).2;exact(GQ ho ((hA a (by simp)).2 _ ho)).1)
  ·exact Yde hc ((hA a (by simp)).1 c hc) ((hA b (by simp)).1 c hc) ((hA a (by simp)).2 c hc) ((hA b (by simp)).2 c hc)
  ·exact Ye8 (Y5 hc (.inl rfl) n7 (fun r0=>(hA a (by simp)).1 _ (hroom (vk r0).1 s n7)) (fun r0=>GQ (hroom (vk r0).1 s n7) ((hA a (by simp)).2 _ (hroom (vk r0).1 s n7))))
  ·exact Yjo (VJ hc (.inl rfl) (hT t (by simp)) ((hA a (by simp)).1 c hc) ((hA a (by simp)).2 c hc))
  ·exact Yc2 (Zu (r0:=Ci a) hc (.inl rfl) (hF f (by simp)) (hT t (by simp)) (JG hc (by have:=ZJ f;have:=hF f (by simp);omega) (hT t (by simp)) ((hA a (by simp)).1 c hc) ((hA a (by simp)).2 c hc)) (vt (hA a (by simp)).2 hc _ _))
  ·exact Zvh (UG (r0:=Ci a) (r1:=Ci b) hc (.inl rfl) rfl rfl ((hA a (by simp)).1 c hc) ((hA a (by simp)).2 c hc) (fun h=>(hA b (by simp)).1 _ h) (fun h=>(hA b (by simp)).2 _ h))
  ·exact Zyj (Y5 hc (.inr rfl) n7 (fun r0=>(hA a (by simp)).1 _ (hroom (vk r0).1 s n7)) (fun r0=>GQ (hroom (vk r0).1 s n7) ((hA a (by simp)).2 _ (hroom (vk r0).1 s n7))))
  ·exact Yfq (VJ hc (.inr rfl) (hT t (by simp)) ((hA a (by simp)).1 c hc) ((hA a (by simp)).2 c hc))
  ·exact Ych (Zu (r0:=Ci a) hc (.inr rfl) (hF f (by simp)) (hT t (by simp)) (JG hc (by have:=ZJ f;have:=hF f (by simp);omega) (hT t (by simp)) ((hA a (by simp)).1 c hc) ((hA a (by simp)).2 c hc)) (vt (hA a (by simp)).2 hc _ _))
  ·exact Zwj (UG (r0:=Ci a) (r1:=Ci b) hc (.inr rfl) rfl rfl ((hA a (by simp)).1 c hc) ((hA a (by simp)).2 c hc) (fun h=>(hA b (by simp)).1 _ h) (fun h=>(hA b (by simp)).2 _ h))
  ·have hff:=hF f (by simp);exact Ybn (Ymr (r0:=Ci a) (r1:=Ci b) hc hff (hT t (by simp)) (JG hc (by omega) (by decide) ((hA a (by simp)).1 c hc) ((hA a (by simp)).2 c hc))
    (fun h=>JG h (by have:=(Kt (hS f (by simp)) (fr:=1) (by_:=1) (by omega)).2.2;omega) (by decide) ((hA b (by simp)).1 _ h) ((hA b (by simp)).2 _ h))
    (vt (hA a (by simp)).2 hc _ _) (fun h=>by have:=vt (hA b (by simp)).2 h (f.Bd 1 1) (sT (vT 0));simpa[Ck.below,Ck.AA] using this))
  ·have hff:=hF f (by simp);exact Zwg (Yj4 (r0:=Ci a) (r1:=Ci b) hc hff (hT t (by simp)) (JG hc (by omega) (by decide) ((hA a (by simp)).1 c hc) ((hA a (by simp)).2 c hc))
    (fun h=>JG h (by have:=(Kt (hS f (by simp)) (fr:=1) (by_:=2) (by omega)).2.2;omega) (by decide) ((hA b (by simp)).1 _ h) ((hA b (by simp)).2 _ h))
    (vt (hA a (by simp)).2 hc _ _) (fun h=>by have:=vt (hA b (by simp)).2 h (f.Bd 1 2) Cf;simpa[Ck.below,Ck.AA] using this))
  ·exact Ydd hc (hT t (by simp))
  ·exact Zrn (Yfc (r0:=Ci a) (r1:=Ci b) hc rfl (hF f (by simp)) ((hA a (by simp)).1 c hc) ((hA a (by simp)).2 c hc) (fun t ht=>JG hc (by have:=hF f (by simp);omega) ht ((hA b (by simp)).1 c hc) ((hA b (by simp)).2 c hc)))
  ·exact Znz (Zza (r0:=Ci a) hc rfl ((hA a (by simp)).1 c hc) ((hA a (by simp)).2 c hc))
theorem VQ(lems hyps:List Fm)(tys:List Ty)(hl:∀f∈lems,f.full<274877906944)(hh:∀f∈hyps,f.full<274877906944)(ht:(tys.map Ty.size).sum<549755813888)(hll:lems.length<549755813888)(hhl:hyps.length<549755813888):
 PC E 43 [.s .fm lems,.agg [.s .ty tys,.s .fm hyps]] (.i (DG lems tys hyps)):=by
 have h1:=SE tys (by omega);unfold DG;by_cases c1:lems.length>32
 ·rw[if_pos c1];refine M.F Tryz.func43 ?_;(repeat' first|refine M.go ?_|refine M.z1 3 ?_|refine M.cs ?_ ?_<;>intro h|refine M.gk ?_|fail);all_goals first
   |rfl
   |(exfalso;simp at h;omega)
   |trace_state
 rw[if_neg c1];refine M.F Tryz.func43 ?_;(repeat' first|refine M.gw ?_|refine M.cs ?_ ?_<;>intro h|fail)
 ·exfalso;simp at h;omega
 refine AW.range lems.length (fun m=>∀j (hj:j<lems.length),j<m->yg [] lems[j]=0)
  (fun m=>([(3,.ptr 0 0),(15,.s .fm lems),(16,.i lems.length),(17,.i m)],⟨1,[(0,.var [.s .ty tys,.s .fm hyps])]⟩))
  (by omega) (fun m=>rfl) (fun m=>rfl) rfl (fun j hj h=>by omega) (M.W [some 0]) ?_ ?_
 ·intro m hm hP;have hc:=NJ [] lems[m] (by have:=hl _ (List.getElem_mem hm);omega) (by simp);by_cases hx:yg [] lems[m]=0
  ·rw[hx] at hc;(repeat' first|refine M.gw ?_|refine M.c2 (hc) ?_|fail);exact⟨rfl,yb (p:=fun f=>yg [] f=0) hm hP hx,(M.W [some 0])⟩
  ·have e:=yx hm hP hx;rw[e,if_pos hx];(repeat' first|refine M.gw ?_|refine M.c2 (hc) ?_|refine M.cs ?_ ?_<;>intro h|fail);all_goals first
    |rfl
    |(exfalso;rename_i h5;simp at h5;exact hx h5)
    |(exfalso;simp at h;exact hx h)
    |trace_state
 ·intro hP;rw[yh fun j hj _=>hP j hj hj,if_neg (by simp)];by_cases c2:xg tys=0;case neg=>
   rw[if_pos c2];(repeat' first|refine M.go ?_|refine M.c2 (h1) ?_|refine M.z1 13 ?_|refine M.cs ?_ ?_<;>intro h|refine M.gk ?_|fail);all_goals first
    |rfl
    |(exfalso;simp at h;exact c2 h)
    |trace_state
  rw[if_neg (by simp[c2])];rw[c2] at h1;by_cases c3:hyps.length>16
  ·rw[if_pos c3];(repeat' first|refine M.go ?_|refine M.c2 (h1) ?_|refine M.z1 15 ?_|refine M.cs ?_ ?_<;>intro h|refine M.gk ?_|fail);all_goals first
    |rfl
    |(exfalso;simp at h;omega)
    |trace_state
  rw[if_neg c3];(repeat' first|refine M.gw ?_|refine M.c2 (h1) ?_|refine M.cs ?_ ?_<;>intro h|fail)
  ·exfalso;simp at h;omega
  refine AW.range hyps.length (fun m=>∀j (hj:j<hyps.length),j<m->yg tys hyps[j]=0)
   (fun m=>([(3,.ptr 0 0),(38,.s .fm hyps),(39,.i hyps.length),(40,.i m)],⟨1,[(0,.var [.s .ty tys,.s .fm hyps])]⟩))
   (by omega) (fun m=>rfl) (fun m=>rfl) rfl (fun j hj h=>by omega) (M.W [some 0]) ?_ ?_
  ·intro m hm hP2;have hc:=NJ tys hyps[m] (by have:=hh _ (List.getElem_mem hm);omega) (by omega);by_cases hx:yg tys hyps[m]=0
   ·rw[hx] at hc;(repeat' first|refine M.gw ?_|refine M.c2 (hc) ?_|fail);exact⟨rfl,yb (p:=fun f=>yg tys f=0) hm hP2 hx,(M.W [some 0])⟩
   ·have e:=yx hm hP2 hx;rw[e];(repeat' first|refine M.gw ?_|refine M.c2 (hc) ?_|refine M.cs ?_ ?_<;>intro h|fail);all_goals first
     |rfl
     |(exfalso;rename_i h5;simp at h5;exact hx h5)
     |(exfalso;simp at h;exact hx h)
     |trace_state
  ·intro hP2;rw[yh fun j hj _=>hP2 j hj hj];(repeat' first|refine M.gw ?_|fail)
   rfl
theorem Ob(lems hyps:List Fm)(tys:List Ty)(p:Pf)(hl:∀f∈lems,f.full<274877906944)(hh:∀f∈hyps,f.full<274877906944)(ht:(tys.map Ty.size).sum<549755813888)(hll:lems.length<549755813888)(hhl:hyps.length<549755813888)(hp:p.full<274877906944):
 PC E 9 [.s .fm lems,.agg [.s .ty tys,.s .fm hyps],.agg p.view] (DU (v9 lems tys hyps p).1 (v9 lems tys hyps p).2.1 (v9 lems tys hyps p).2.2):=by
 have h1:=VQ lems hyps tys hl hh ht hll hhl;have h2:=ZP p (by omega);unfold v9;by_cases c1:DG lems tys hyps=0;case neg=>
  rw[if_pos c1];refine M.F Tryz.func9 ?_;(repeat' first|refine M.go ?_|refine M.c2 (h1) ?_|refine M.z1 4 ?_|refine M.cs ?_ ?_<;>intro h|refine M.gk ?_|fail);all_goals first
   |rfl
   |(exfalso;simp at h;exact c1 h)
   |trace_state
 rw[if_neg (by simp[c1])];rw[c1] at h1;by_cases c2:p.err=0;case neg=>
  rw[if_pos c2];refine M.F Tryz.func9 ?_;(repeat' first|refine M.go ?_|refine M.c2 (h1) ?_|refine M.c2 (h2) ?_|refine M.z1 7 ?_|refine M.cs ?_ ?_<;>intro h|refine M.gk ?_|fail);all_goals first
   |rfl
   |(exfalso;simp at h;exact c2 h)
   |trace_state
 rw[if_neg (by simp[c2])];rw[c2] at h2;obtain⟨ps,pm,_⟩:=(Pf.Ae p).1 c2;have hok:=Zf c1;have h3:PC E 45 [.agg [.s .fm lems,.s .ty tys,.s .fm hyps],.agg p.view] (DU (Ci p ⟨lems,tys,hyps⟩).1 (Ci p ⟨lems,tys,hyps⟩).2.1 (Ci p ⟨lems,tys,hyps⟩).2.2):=Ye6 p ps pm ⟨lems,tys,hyps⟩ hok;have hro:=OU p ps ⟨lems,tys,hyps⟩ hok;generalize Ci p ⟨lems,tys,hyps⟩=r at*;obtain⟨f,u,e⟩:=r;have hb:=GQ hok hro;have h4:=w4 _ f (Nat.le_refl _) (by omega);by_cases he:e=0
 ·subst he;refine M.F Tryz.func9 ?_;(repeat' first|refine M.gw ?_|refine M.c2 (h1) ?_|refine M.c2 (h2) ?_|refine M.c2 (h3) ?_|refine M.c2 (h4) ?_|fail)
  rfl
 ·have e1:=hro.2 he;simp only[yn,Prod.mk.injEq] at e1;obtain⟨rfl,rfl,_⟩:=e1;refine M.F Tryz.func9 ?_;(repeat' first|refine M.go ?_|refine M.c2 (h1) ?_|refine M.c2 (h2) ?_|refine M.c2 (h3) ?_|refine M.z1 10 ?_|refine M.cs ?_ ?_<;>intro h|refine M.gk ?_|fail);all_goals first
   |rfl
   |(exfalso;simp at h;exact he h)
   |trace_state
theorem Zx:∀(b:Nat) (p:Pf),p.full<=b->b<549755813888->PC E 71 [.agg p.view] (.agg p.view):=by
 intro b;induction b with
 |zero=>intro f h;have:=f.Aa;omega
 |succ b ih=>
 intro p hsz hb;have hsz':=p.Ag;have hlen:=zg Pf.full Pf.Aa p.args;have hlen1:=zg Fm.full Fm.Aa p.Ad;have hlen2:=zg Tm.full Tm.Aa p.terms;have hty:=w7 _ p.ty (Nat.le_refl _) (by omega);refine M.F Tryz.func71 ?_;(repeat' first|refine M.gw ?_|refine M.c2 (hty) ?_|fail);refine AW.range p.terms.length (fun m=>True)
  (fun m=>([(1,.ptr 0 0),(2,.ptr 1 0),(3,.ptr 2 0),(19,.s .tm p.terms),(20,.i p.terms.length),(21,.i m)],⟨4,[(0,.var p.view),(1,.var [.i 0,.i 0,.i 0,.slice .nil (.t .ty []),.slice .nil (.t .tm []),.slice .nil (.t .fm []),.slice .nil (.t .pf [])]),(2,.var [.i p.kind,.i p.index,.i p.ty.kind,.s .ty p.ty.args,.slice (.own 3) (.t .tm (p.terms.take m)),.slice .nil (.t .fm []),.slice .nil (.t .pf [])]),(3,.row)]⟩))
  (by omega) (fun m=>rfl) (fun m=>rfl) rfl trivial (M.W [some 0,some 1,some 2,none]) ?_ ?_
 ·intro m hm _;have hs2:=ze Tm.full (List.getElem_mem hm);(repeat' first|refine M.gw ?_|refine M.c2 (vf _ _ (Nat.le_refl _) ?_) ?_|exact M.lt|fail);exact⟨rfl,trivial,(M.W [some 0,some 1,some 2,some 5] (he:=(by(repeat'(first|exact trivial|exact Or.inr ⟨_,U,rfl⟩|refine And.intro ?_ ?_|refine⟨_,U,_,U,_,U,?_⟩|exact Aj.refl _|exact Aj.of_eq (by simp[Ao.Ar,List.take_append_getElem])));done)))⟩
 ·intro _;simp only[List.take_length];(repeat' first|refine M.gw ?_|fail);refine AW.range p.Ad.length (fun m=>True)
   (fun m=>([(1,.ptr 0 0),(2,.ptr 1 0),(3,.ptr 2 0),(34,.s .fm p.Ad),(35,.i p.Ad.length),(36,.i m)],⟨5,[(0,.var p.view),(1,.var [.i 0,.i 0,.i 0,.slice .nil (.t .ty []),.slice .nil (.t .tm []),.slice .nil (.t .fm []),.slice .nil (.t .pf [])]),(2,.var [.i p.kind,.i p.index,.i p.ty.kind,.s .ty p.ty.args,.slice (.own 3) (.t .tm p.terms),.slice (.own 4) (.t .fm (p.Ad.take m)),.slice .nil (.t .pf [])]),(3,.row),(4,.row)]⟩))
   (by omega) (fun m=>rfl) (fun m=>rfl) rfl trivial (M.W [some 0,some 1,some 2,some 3,none]) ?_ ?_
  ·intro m hm _;have hs2:=ze Fm.full (List.getElem_mem hm);(repeat' first|refine M.gw ?_|refine M.c2 (w4 _ _ (Nat.le_refl _) ?_) ?_|exact M.lt|fail);exact⟨rfl,trivial,(M.W [some 0,some 1,some 2,some 3,some 6] (he:=(by(repeat'(first|exact trivial|exact Or.inr ⟨_,U,rfl⟩|refine And.intro ?_ ?_|refine⟨_,U,_,U,_,U,?_⟩|exact Aj.refl _|exact Aj.of_eq (by simp[Ao.Ar,List.take_append_getElem])));done)))⟩
  ·intro _;simp only[List.take_length];(repeat' first|refine M.gw ?_|fail);refine AW.range p.args.length (fun m=>True)
    (fun m=>([(1,.ptr 0 0),(2,.ptr 1 0),(3,.ptr 2 0),(49,.s .pf p.args),(50,.i p.args.length),(51,.i m)],⟨6,[(0,.var p.view),(1,.var [.i 0,.i 0,.i 0,.slice .nil (.t .ty []),.slice .nil (.t .tm []),.slice .nil (.t .fm []),.slice .nil (.t .pf [])]),(2,.var [.i p.kind,.i p.index,.i p.ty.kind,.s .ty p.ty.args,.slice (.own 3) (.t .tm p.terms),.slice (.own 4) (.t .fm p.Ad),.slice (.own 5) (.t .pf (p.args.take m))]),(3,.row),(4,.row),(5,.row)]⟩))
    (by omega) (fun m=>rfl) (fun m=>rfl) rfl trivial (M.W [some 0,some 1,some 2,some 3,some 4,none]) ?_ ?_
   ·intro m hm _;have hs2:=ze Pf.full (List.getElem_mem hm);(repeat' first|refine M.gw ?_|refine M.c2 (ih _ ?_ ?_) ?_|exact M.le|exact M.lt|fail);exact⟨rfl,trivial,(M.W [some 0,some 1,some 2,some 3,some 4,some 7] (he:=(by(repeat'(first|exact trivial|exact Or.inr ⟨_,U,rfl⟩|refine And.intro ?_ ?_|refine⟨_,U,_,U,_,U,?_⟩|exact Aj.refl _|exact Aj.of_eq (by simp[Ao.Ar,List.take_append_getElem])));done)))⟩
   ·intro _;simp only[List.take_length];(repeat' first|refine M.gw ?_|fail)
    rfl
theorem FB(k:Int)(l:List Pf)(hl:l.length<1000000)(h:∀p∈l,p.full<500000000000):PC E 25 [.i k,.s .pf l] (.agg (Pf.mk k 0 (.mk 0 []) [] [] l).view):=by
 refine M.F Tryz.func25 ?_;(repeat' first|refine M.gw ?_|fail);refine AW.range l.length (fun m=>True)
  (fun m=>([(4,.ptr 0 0),(5,.ptr 1 0),(10,.s .pf l),(11,.i l.length),(12,.i m)],⟨3,[(0,.var [.i 0,.i 0,.i 0,.slice .nil (.t .ty []),.slice .nil (.t .tm []),.slice .nil (.t .fm []),.slice .nil (.t .pf [])]),(1,.var [.i k,.i 0,.i 0,.slice .nil (.t .ty []),.slice .nil (.t .tm []),.slice .nil (.t .fm []),.slice (.own 2) (.t .pf (l.take m))]),(2,.row)]⟩))
  (by omega) (fun m=>rfl) (fun m=>rfl) rfl trivial (M.W [some 0,some 1,none]) ?_ ?_
 ·intro m hm _;have hc:=Zx _ l[m] (Nat.le_refl _) (by have:=h _ (List.getElem_mem hm);omega);(repeat' first|refine M.gw ?_|refine M.c2 (hc) ?_|fail);exact⟨rfl,trivial,(M.W [some 0,some 1,some 4] (he:=(by(repeat'(first|exact trivial|exact Or.inr ⟨_,U,rfl⟩|refine And.intro ?_ ?_|refine⟨_,U,_,U,_,U,?_⟩|exact Aj.refl _|exact Aj.of_eq (by simp[Ao.Ar,List.take_append_getElem])));done)))⟩
 ·intro _;simp only[List.take_length];(repeat' first|refine M.gw ?_|fail)
  rfl
theorem Qs(k:Int)(f:Fm)(t:Tm)(p q:Pf)(hf:f.full<500000000000)(ht:t.full<500000000000)(hp:p.full<500000000000)(hq:q.full<500000000000):PC E 36 [.i k,.agg f.view,.agg t.view,.agg p.view,.agg q.view] (.agg (Pf.mk k 0 (.mk 0 []) [t] [f] [p,q]).view):=by
 have h1:=FB k [p,q] (by simp) (by intro x hx;simp only[List.mem_cons,List.not_mem_nil,or_false] at hx;rcases hx with rfl|rfl<;>omega);have h2:=w4 _ f (Nat.le_refl _) (by omega);have h3:=vf _ t (Nat.le_refl _) (by omega);refine M.F Tryz.func36 ?_;(repeat' first|refine M.gw ?_|refine M.c2 (h1) ?_|refine M.c2 (h2) ?_|refine M.c2 (h3) ?_|fail)
 rfl
theorem wv(t:Tm)(ht:t.full<500000000000):PC E 23 [.agg t.view] (.agg (Pf.mk 18 0 (.mk 0 []) [t] [] []).view):=by
 have h2:=vf _ t (Nat.le_refl _) (by omega);refine M.F Tryz.func23 ?_;(repeat' first|refine M.gw ?_|refine M.c2 (h2) ?_|fail)
 rfl
theorem V8(f:Fm)(p q:Pf)(hf:f.full<500000000000)(hp:p.full<500000000000)(hq:q.full<500000000000):PC E 127 [.agg f.view,.agg p.view,.agg q.view] (.agg (Pf.mk 19 0 (.mk 0 []) [] [f] [p,q]).view):=by
 have h1:=FB 19 [p,q] (by simp) (by intro x hx;simp only[List.mem_cons,List.not_mem_nil,or_false] at hx;rcases hx with rfl|rfl<;>omega);have h2:=w4 _ f (Nat.le_refl _) (by omega);refine M.F Tryz.func127 ?_;(repeat' first|refine M.gw ?_|refine M.c2 (h1) ?_|refine M.c2 (h2) ?_|fail)
 rfl
def Uy(p:Pf):Pf×Int:=if p.err=0 then(p,0) else(BR,4)
inductive Ch where
 |tm (t:Tm)|fm (f:Fm)|pf (p:Pf)
def Ch.cell:Ch->V
 | .tm t=> .ifc 33 t.view
 | .fm f=> .ifc 39 f.view
 | .pf p=> .ifc 30 p.view
def Ch.err:Ch->Int
 | .tm t=>t.err| .fm f=>f.err| .pf p=>p.err
def Ch.full:Ch->Nat
 | .tm t=>t.full| .fm f=>f.full| .pf p=>p.full
def chV(l:List Ch):V:= .slice .any (.u 1 (l.map fun x=>[x.cell]))
def RL(l:List Ch)(p:Pf):Pf×Int:=if yz Ch.err l≠0 then(BR,yz Ch.err l) else Uy p
theorem Oj(a b:Tm):(AV a b).full=2+a.full+b.full:=by
 simp only[AV,Fm.full,Fm.As,List.map_cons,List.map_nil,List.sum_cons,List.sum_nil,Ty.size,Ty.sizes];omega
theorem KS(i:Int):(vT i).full=2:=by simp only[vT,Tm.full,Tm.As,Ty.size,Ty.sizes]
theorem Ln(f x:Tm):(A0 f x).full=2+f.full+x.full:=by
 simp only[A0,Tm.full,Tm.As,Ty.size,Ty.sizes];omega
def exC:Ck:=⟨[],[Af,Af],[AV (vT 0) (vT 1)]⟩
def MV(l:List Ch)(ok:Bool)(p:Pf):Pf×Int:=if yz Ch.err l≠0 then(BR,yz Ch.err l) else if ok=false then(BR,4) else Uy p
def UU(a b:Fm):Int:=if OY a 0 1≠0 then OY a 0 1 else if OY b 0 1≠0 then OY b 0 1 else(Kh a b).err
def lftR(a b:Fm)(p:Pf):Pf×Int:=MV [.fm a,.fm b,.pf p] (decide (UU a b=0/\(EY b.dp 262144 b 0).2>=0)) (M4 a b p (EY b.dp 262144 b 0).1)
def rgtR(a b:Fm)(p:Pf):Pf×Int:=MV [.fm a,.fm b,.pf p] (decide (UU a b=0/\(EY a.dp 262144 a 0).2>=0)) (NQ a b p (EY a.dp 262144 a 0).1)
def casR(a b d:Fm)(p q r:Pf):Pf×Int:=RL [.fm a,.fm b,.fm d,.pf p,.pf q,.pf r] (WU a b d p q r)
def numR(f:Fm)(p q:Pf):Pf×Int:=RL [.fm f,.pf p,.pf q] (QM f p q)
def lisR(f:Fm)(p q:Pf):Pf×Int:=RL [.fm f,.pf p,.pf q] (Yld f p q)
mutual
def Tm.Je:Tm->Bool
 | .mk _ i _ xs=>decide (0<=i)&&decide (i<1000)&&Tm.Fb xs
def Tm.Fb:List Tm->Bool
 |[]=>true
 |t::l=>t.Je&&Tm.Fb l
end
mutual
def Fm.Je:Fm->Bool
 | .mk _ _ ts zs=>ts.all Tm.Je&&Fm.Fb zs
def Fm.Fb:List Fm->Bool
 |[]=>true
 |t::l=>t.Je&&Fm.Fb l
end
mutual
def Pf.Je:Pf->Bool
 | .mk _ i _ ts fs zs=>decide (0<=i)&&decide (i<1000)&&ts.all Tm.Je&&fs.all Fm.Je&&Pf.Fb zs
def Pf.Fb:List Pf->Bool
 |[]=>true
 |t::l=>t.Je&&Pf.Fb l
end
def atP(i j:Int):Pf:=RM (xd i) (RM (xd j) eqP)
def oneF(i j:Int):Fm:=FA (xd j) (xd i)
theorem Gf.up{g:List Ty}{f:Fm}{n m:Nat}(h:Gf g f n)(hm:n<=m):Gf g f m:=⟨h.sh,Nat.le_trans h.sz hm,h.ok⟩
def earI(a b:Int):Int:=if a≠0 then a else b
theorem MJ(i:Int):PC E 35 [.i i] (.agg (w8 i).view):=by
 refine M.F Tryz.func35 ?_;(repeat' first|refine M.gw ?_|fail)
 rfl
theorem XR(t:Tm)(he:t.shape=true)(hf:t.full<100000000000)(hix:∀p∈t.vars 0,0<=p.1/\p.1<549755813888):PC E 128 [.agg t.view,.i 1] (.agg (t.re (zo 0 1) 0).view):=by
 have h:=M0 1 (by omega) _ t 0 (Nat.le_refl _) (by omega) (by omega) (by omega) he hix;generalize t.re (zo 0 1) 0=u at*;refine M.F Tryz.func128 ?_;(repeat' first|refine M.gw ?_|refine M.c2 (h) ?_|fail);simp[zi,V.wk,V.An,zd,Ty.view,Tm.view]
theorem Zym(g s:Tm)(p:Pf)(hg:Dx g)(hs:Dx s)(hp:p.full<100000000000):PC E 77 [.agg g.view,.agg s.view,.agg p.view] (.agg (I1 g s p).view):=by
 have f1:=hg.2.2;have f2:=hs.2.2;have l1:=vb 0 1 g 0 hg.1;have l2:=vb 0 1 s 0 hs.1;have h1:=XR g hg.1 (by omega) (fun q hq=>by have:=hg.2.1 q hq;omega);have h2:=XR s hs.1 (by omega) (fun q hq=>by have:=hs.2.1 q hq;omega);have h3:=Er 0;have h4:=CW 3 [g,s] (by simp;omega);unfold I1 GM xx;generalize g.re (zo 0 1) 0=g1 at*;generalize s.re (zo 0 1) 0=s1 at*;have h5:=CW 3 [g1,s1] (by simp;omega);have h6:=CW 3 [g1,vT 0] (by simp[KS];omega);have h7:=GS (A0 g1 s1) (A0 g1 (vT 0)) (by rw[Ln];omega) (by rw[Ln,KS];omega);have h8:=wv (A0 g s) (by rw[Ln];omega);have h9:=V8 (AV (A0 g1 s1) (A0 g1 (vT 0))) p (.mk 18 0 (.mk 0 []) [A0 g s] [] []) (by rw[Oj,Ln,Ln,KS];omega) (by omega) (by rw[vg,G0];simp[Ln];omega);refine M.F Tryz.func77 ?_;(repeat' first|refine M.gw ?_|refine M.c2 (h1) ?_|refine M.c2 (h2) ?_|refine M.c2 (h3) ?_|refine M.c2 (h4) ?_|refine M.c2 (h5) ?_|refine M.c2 (h6) ?_|refine M.c2 (h7) ?_|refine M.c2 (h8) ?_|refine M.c2 (h9) ?_|fail);all_goals first
  |rfl
  |trace_state
theorem Zqo(ts:List Tm)(p:Pf)(ht:∀t∈ts,t.err=0)(hp:p.err=0)(hpf:p.full<500000000000)(hl:ts.length<=1000):PC E 78 [.s .tm ts,.s .fm [],.s .pf [p]] (.i 0):=by
 have hk:=ZP p (by omega);rw[hp] at hk;refine M.F Tryz.func78 ?_;(repeat' first|refine M.gw ?_|fail);refine AW.range ts.length (fun m=>True) (fun m=>([(1,.s .fm []),(2,.s .pf [p]),(16,.s .tm ts),(17,.i ts.length),(18,.i m)],⟨0,[]⟩))
  (by omega) (fun m=>rfl) (fun m=>rfl) rfl trivial (M.W []) ?_ ?_
 ·intro m hm _;have hc:=v8 ts[m] (by have:=yo (ht _ (List.getElem_mem hm));omega);rw[ht _ (List.getElem_mem hm)] at hc;(repeat' first|refine M.gw ?_|refine M.c2 (hc) ?_|fail);exact⟨rfl,trivial,(M.W [])⟩
 intro _;(repeat' first|refine M.gw ?_|fail);refine AW.range ([]:List Fm).length (fun m=>True) (fun m=>([(2,.s .pf [p]),(28,.s .fm []),(29,.i ([]:List Fm).length),(30,.i m)],⟨0,[]⟩))
  (by simp) (fun m=>rfl) (fun m=>rfl) rfl trivial (M.W []) ?_ ?_
 ·intro m hm _;exact absurd hm (by simp)
 intro _;(repeat' first|refine M.gw ?_|fail);refine AW.range ([p]:List Pf).length (fun m=>True) (fun m=>([(40,.s .pf [p]),(41,.i ([p]:List Pf).length),(42,.i m)],⟨0,[]⟩))
  (by simp) (fun m=>rfl) (fun m=>rfl) rfl trivial (M.W []) ?_ ?_
 ·intro m hm _;obtain rfl:m=0:=by simpa using hm
  (repeat' first|refine M.gw ?_|refine M.c2 (hk) ?_|fail);exact⟨rfl,trivial,(M.W [])⟩
 intro _;(repeat' first|refine M.gw ?_|fail)
 rfl
theorem Zwb(p:Pf)(hp:p.err=0)(hpf:p.full<500000000000):PC E 76 [.agg p.view,.i 0] (.At [.agg p.view,.i 0]):=by
 have h1:=Zk p (by omega);have h2:=(Pf.Ae p).1 hp;have e:(p.small&&decide (p.size<=16384))=true:=by simp[h2.2.1,h2.2.2]
 rw[e] at h1;have h3:=Zx _ p (Nat.le_refl _) (by omega);refine M.F Tryz.func76 ?_;(repeat' first|refine M.gw ?_|refine M.c2 (h1) ?_|refine M.c2 (h3) ?_|fail)
 rfl
theorem Ybz(g s t:Tm)(p:Pf)(hg:Dx g)(hs:Dx s)(eg:g.err=0)(es:s.err=0)(et:t.err=0)(ep:p.err=0)(hp:p.full<100000000000)(ec:(I1 g s p).err=0):
 PC E 31 [.agg g.view,.agg s.view,.agg t.view,.agg p.view] (.At [.agg (I1 g s p).view,.i 0]):=by
 have f1:=hg.2.2;have f2:=hs.2.2;have h1:=Zym g s p hg hs hp;have h2:=Zqo [g,s,t] p (by simp[eg,es,et]) ep (by omega) (by simp);have h3:=Zwb (I1 g s p) ec (by have:=Qm _ ((Pf.Ae _).1 ec).1;have:=((Pf.Ae _).1 ec).2.2;omega);generalize I1 g s p=P at*;refine M.F Tryz.func31 ?_;(repeat' first|refine M.gw ?_|refine M.c2 (h1) ?_|refine M.c2 (h2) ?_|refine M.c2 (h3) ?_|fail);all_goals first
  |rfl
  |trace_state
def CJ:Tm:=A0 (A0 Cj zT) (vT 0)
def Cq:Pf:=I1 E9 CJ (w8 0)
def NP(t:Tm):Pf:= .mk 16 0 (.mk 0 []) [t] [AV CJ (vT 0)] [xx zT,Cq]
theorem NY(t:Tm)(h1:t.shape=true)(h2:(t.vars 0).all (fun q=>decide (0<=q.1/\q.1<10000))=true)(h3:t.full<=300000):Dx t:=
 ⟨h1,fun q hq=>by simpa using List.all_eq_true.1 h2 q hq,h3⟩
theorem Xq(t:Tm)(ht:t.full<100000000000):PC E 6 [.agg t.view] (.agg (NP t).view):=by
 have h1:=Vk;have h2:=IP 0;have e0:xd 0=zT:=by decide
 rw[e0] at h2;have h3:=Er 0;have h4:=Qv Cj [zT,vT 0] (by decide);have h5:=GS CJ (vT 0) (by decide) (by decide);have h6:=uq;have h7:=CW 5 [vT 0] (by decide);have h8:=Gn 2 Af [sT (vT 0)] (by decide) (by decide);have h9:=MJ 0;have h10:=Ybz E9 CJ (vT 0) (w8 0) (NY _ (by decide+kernel) (by decide+kernel) (by decide+kernel)) (NY _ (by decide+kernel) (by decide+kernel) (by decide+kernel)) (by decide+kernel) (by decide+kernel) (by decide+kernel) (by decide+kernel) (by decide+kernel) (by decide+kernel);have hz:Cq.full<1000:=by decide+kernel
 have h11:=wv zT (by decide);have h12:=Qs 16 (AV CJ (vT 0)) t (.mk 18 0 (.mk 0 []) [zT] [] []) Cq (by decide+kernel) (by omega) (by decide+kernel) (by omega);have e1:I1 E9 CJ (w8 0)=Cq:=rfl;rw[e1] at h10;have e2:List.foldl A0 Cj [zT,vT 0]=CJ:=rfl;rw[e2] at h4;unfold NP;generalize Cq=Z at*;generalize w8 0=H at*;generalize CJ=P0 at*;refine M.F Tryz.func6 ?_;(repeat' first|refine M.gw ?_|refine M.c2 (h1) ?_|refine M.c2 (h2) ?_|refine M.c2 (h3) ?_|refine M.c2 (h4) ?_|refine M.c2 (h5) ?_|refine M.c2 (h6) ?_|refine M.c2 (h7) ?_|refine M.c2 (h8) ?_|refine M.c2 (h9) ?_|refine M.c2 (h10) ?_|refine M.c2 (h11) ?_|refine M.c2 (h12) ?_|fail);all_goals first
  |rfl
  |trace_state
def Kn(t:Tm):Fm:=Bp 5 Af (AV (t.re (zo 0 1) 0) (vT 0))
def Dk.TL(d:Dk):Nat:=(d.next 3).1.toNat
def Dk.lm(d:Dk):List Fm×Dk:=Dk.Dj d.TL (d.next 3).2 []
def E2(n:Nat):Nat:=4000000*3^n
theorem Ek.size{g:List Ty}{f:Fm}(hs:f.shape=true)(hz:f.size<=4500)(ho:f.Bk g)(hg:g.length<=20):Ek f:=by
 have h1:=Jv f hs;refine⟨hs,fun q hq r hr=> ?_,by omega⟩;have:=RF f g 0 hs ho q hq r hr;omega
def E5(n:Nat):Prop:=∀(lems:List Fm) (tys:List Ty) (hyps:List Fm) (d:Dk) (k:Int),k=n->d.ok->(Ck.mk lems tys hyps).ok->Ap tys->
 ∃(p:Pf) (d':Dk),Made (E2 n) p/\d'.ok/\AC E 106 [.ptr 0 0,.s .fm lems,.agg [.s .ty tys,.s .fm hyps],.i k] ⟨1,[(0,.var d.cells)]⟩ (.agg p.view) ⟨1,[(0,.var d'.cells)]⟩
abbrev FW(n:Nat)(lems:List Fm)(tys:List Ty)(hyps:List Fm)(d:Dk)(k:Int):Prop:=
 ∃(p:Pf) (d':Dk),Made (E2 (n+1)) p/\d'.ok/\AW E Tryz.f106.ntmps 1 (GY [1,1] (Nj Tryz.f106)) [(0,.ptr 0 0),(1,.s .fm lems),(3,.i k),(6,.ptr 1 0),(8,.ptr 2 0),(9,.ptr 3 0)] ⟨4,[(0,.var d.cells),(1,.var [.s .ty tys,.s .fm hyps]),(2,.var [.i 0,.i 0,.i 0,.slice .nil (.t .ty []),.slice .nil (.t .tm []),.slice .nil (.t .fm []),.slice .nil (.t .pf [])]),(3,.var Af.view)]⟩ (FR E 1 Tryz.f106.results.toList (.agg p.view) ⟨1,[(0,.var d'.cells)]⟩)
def exI(i:Int):Pf:= .mk 6 0 (.mk 0 []) [] [NU] [w8 i]
def HS:Pf:= .mk 18 0 (.mk 0 []) [xd 0] [] []
def Pv:Pf:= .mk 18 0 (.mk 0 []) [xd 1] [] []
def HW:Pf:= .mk 4 0 (.mk 0 []) [] [] [.mk 3 0 (.mk 0 []) [] [] [HS,Pv]]
end Go.Ab
