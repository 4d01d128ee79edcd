/- A part of this seat's proofs. No conditions. -/
import Derived.Test.YtknjfffhfolkcaaGreatDoorHST3
namespace Go.Ab
open Go Go.Proofs
set_option maxRecDepth 100000
set_option maxHeartbeats 4000000
set_option linter.all false
theorem Sr(f:Fm)(t:Tm):(Du f t).1.full<=1200000000:=by
 unfold Du;by_cases h:y1 f 0 t=0
 .rw[if_pos h];exact UX h
 .rw[if_neg h];exact W8 (by decide:A7.full<=2) (by decide)
section
variable {c:Ck} (hc:c.ok) {p q:Pf} {f0 f1:Fm} {u0 u1:List Int} {e0 e1:Int}
include hc
theorem H7{f:Fm}{t:Tm}(hf:f.full<=1200000000)(ht:t.full<=300000)(hp:PC E 74 [.agg c.view,.agg p.view] (DF f0 u0 e0))(o0:FF c (f0,u0,e0)):
 PC E 188 [.agg c.view,.agg p.view,.agg f.view,.agg t.view] (.AD [.s .int (y4 (fun _=>(f0,u0,e0)) c f t).1,.i (y4 (fun _=>(f0,u0,e0)) c f t).2]):=by
 have b0:=F7 hc o0;have h1:=Jz f t (by omega) (by omega);have hb:=Sr f t;have h2:=VM (Du f t).1 f0 (by omega) (by omega);unfold y4;by_cases he:e0=0;case neg=>
  rw[if_pos he];refine M.F Tryz.func188 ?_;(repeat' first|refine M.go ?_|refine M.c2 (hp) ?_|refine M.z1 4 ?_|refine M.cs ?_ ?_<;>intro h|refine M.gk ?_|fail);all_goals first
   |rfl
   |(exfalso;simp at h;exact he h)
 subst he;rw[if_neg (by simp)];by_cases h0:(Du f t).2=0;case neg=>
  rw[if_pos h0];refine M.F Tryz.func188 ?_;(repeat' first|refine M.go ?_|refine M.c2 (hp) ?_|refine M.c2 (h1) ?_|refine M.z1 7 ?_|refine M.cs ?_ ?_<;>intro h|refine M.gk ?_|fail);all_goals first
   |rfl
   |(exfalso;simp at h;exact h0 h)
 rw[if_neg (by simp[h0])];rw[h0] at h1;refine M.F Tryz.func188 ?_;(repeat' first|refine M.gw ?_|refine M.c2 (hp) ?_|refine M.c2 (h1) ?_|refine M.c2 (h2) ?_|fail)
 rfl
theorem TC{k:Int}(hk:k=8\/k=12){s:Ty}(hs:s.err=0)(hp:c.room 1 0=0->PC E 74 [.agg (c.below [s]).view,.agg p.view] (DF f0 u0 e0))(b0:c.room 1 0=0->f0.full<=266240/\u0.length<=16/\∀x∈u0,0<=x/\x<=1000000):
 PC E 144 [.agg c.view,.agg (Pf.mk k 0 s [] [] [p]).view] (Cu (Lb k s (fun _=>(f0,u0,e0)) c)):=by
 have hl:=hc.len;have hn:=hc.nh;have h1:=LR c 1 0 (by omega) (by omega);have hsz:=((Ty.Ad s).1 hs).2;unfold Lb;by_cases r0:c.room 1 0=0;case neg=>
  rw[if_pos r0];rw[KG r0] at h1;refine M.F Tryz.func144 ?_;(repeat' first|refine M.gw ?_|refine M.c2 (h1) ?_|fail)
  rfl
 rw[if_neg (by simp[r0])];rw[r0] at h1;have b:=b0 r0;have h2:=M8 c hc [s] (by simp) (by simp);have h3:=hp r0;have h4:=VG u0;have h5:=Nr u0 1 (by omega) (by omega) b.2.2;have h6:=FO 4 s f0 (by omega) (by omega);have h7:=FO 6 s f0 (by omega) (by omega);by_cases he:e0=0;case neg=>
  rw[if_pos he];refine M.F Tryz.func144 ?_;(repeat' first|refine M.go ?_|refine M.c2 (h1) ?_|refine M.c2 (h2) ?_|refine M.c2 (h3) ?_|refine M.z1 7 ?_|refine M.cs ?_ ?_<;>intro h|refine M.gk ?_|fail);all_goals first
   |rfl
   |(exfalso;simp at h;exact he h)
   |trace_state
 subst he;rw[if_neg (by simp)];rcases hk with rfl|rfl
 .rw[if_pos rfl];refine M.F Tryz.func144 ?_;(repeat' first|refine M.gw ?_|refine M.c2 (h1) ?_|refine M.c2 (h2) ?_|refine M.c2 (h3) ?_|refine M.c2 (h5) ?_|refine M.c2 (h6) ?_|fail)
  rfl
 .rw[if_neg (by decide)];cases hh:Jw u0 with
  |true=>
   rw[hh] at h4;rw[if_pos rfl];refine M.F Tryz.func144 ?_;(repeat' first|refine M.gw ?_|refine M.c2 (h1) ?_|refine M.c2 (h2) ?_|refine M.c2 (h3) ?_|refine M.c2 (h4) ?_|fail)
   rfl
  |false=>
   rw[hh] at h4;rw[if_neg (by simp)];refine M.F Tryz.func144 ?_;(repeat' first|refine M.gw ?_|refine M.c2 (h1) ?_|refine M.c2 (h2) ?_|refine M.c2 (h3) ?_|refine M.c2 (h4) ?_|refine M.c2 (h5) ?_|refine M.c2 (h7) ?_|fail)
   rfl
theorem SB{k:Int}(hk:k=9\/k=13){t:Tm}(ht:t.full<=300000)(hp:PC E 74 [.agg c.view,.agg p.view] (DF f0 u0 e0))(o0:FF c (f0,u0,e0)):
 PC E 145 [.agg c.view,.agg (Pf.mk k 0 (.mk 0 []) [t] [] [p]).view] (Cu (atR k t (fun _=>(f0,u0,e0)) c)):=by
 have hl:=hc.len;have hsum:=hc.sum;have b0:=F7 hc o0;have h1:=OI c.tys t (by omega) (by omega);unfold atR;by_cases t0:(yz c.tys t).2=0;case neg=>
  rw[if_pos t0];refine M.F Tryz.func145 ?_;(repeat' first|refine M.go ?_|refine M.c2 (h1) ?_|refine M.z1 5 ?_|refine M.cs ?_ ?_<;>intro h|refine M.gk ?_|fail);all_goals first
   |rfl
   |(exfalso;simp at h;exact t0 h)
 rw[if_neg (by simp[t0])];rw[t0] at h1;obtain⟨_,t1,t2,_⟩:=Kk t0;by_cases he:e0=0;case neg=>
  rw[if_pos he];refine M.F Tryz.func145 ?_;(repeat' first|refine M.go ?_|refine M.c2 (h1) ?_|refine M.c2 (hp) ?_|refine M.z1 8 ?_|refine M.cs ?_ ?_<;>intro h|refine M.gk ?_|fail);all_goals first
   |rfl
   |(exfalso;simp at h;exact he h)
   |(exfalso;simp at h;done)
 subst he;rw[if_neg (by simp)];have hfr:=Mi t t1 t2 (by omega);have hfl:=(v3 t2).len;have hun:=uy u0 (E4 t) (by omega) (by omega);by_cases hkd:f0.kind=kI k 13 6 4;case neg=>
  rw[if_pos hkd];rcases hk with rfl|rfl;all_goals
   refine M.F Tryz.func145 ?_;(repeat' first|refine M.go ?_|refine M.c2 (h1) ?_|refine M.c2 (hp) ?_|refine M.c2 (hfr) ?_|refine M.c2 (hun) ?_|refine M.z1 13 ?_|refine M.cs ?_ ?_<;>intro h|refine M.gk ?_|fail);all_goals first
    |rfl
    |(exfalso;simp at h;exact hkd h)
    |trace_state
 rw[if_neg (by simp[hkd])];have hkk:4<=f0.kind/\f0.kind<=7:=by rw[hkd,kI];split<;>omega
 have s0:=(Fm.Ad _).1 (o0.1 rfl).1;obtain⟨x,e⟩:=GX s0.1 hkk;simp only at e;have ex:=vf (o0.1 rfl).1 (x:=x) (by rw[show(f0,u0,(0:Int)).1=f0 from rfl,e];simp[Br]);have hte:=HE s0.1 hkk;have hsame:=xh _ f0.ty (yz c.tys t).1 (Wj _) (by have:=((Ty.Ad _).1 hte).2;simp only at this;omega);have hput:=Jz x t (by have:=ye ex;omega) (by omega);have hx:f0.args.getD 0 A7=x:=by rw[e];rfl
 rw[hx];generalize hty:f0.ty=s at*;by_cases hts:s=(yz c.tys t).1;case neg=>
  rw[if_pos hts];rw[decide_eq_false hts] at hsame;rw[hkd] at e;subst e;rcases hk with rfl|rfl;all_goals
   simp only[kI] at*;refine M.F Tryz.func145 ?_;(repeat' first|refine M.gw ?_|refine M.c2 (h1) ?_|refine M.c2 (hp) ?_|refine M.c2 (hfr) ?_|refine M.c2 (hun) ?_|refine M.c2 (hsame) ?_|fail);all_goals first
    |rfl
    |trace_state
 rw[if_neg (by simp[hts])];rw[decide_eq_true hts] at hsame;rw[hkd] at e;subst e;rcases hk with rfl|rfl;all_goals
  simp only[kI] at*;refine M.F Tryz.func145 ?_;(repeat' first|refine M.gw ?_|refine M.c2 (h1) ?_|refine M.c2 (hp) ?_|refine M.c2 (hfr) ?_|refine M.c2 (hun) ?_|refine M.c2 (hsame) ?_|refine M.c2 (hput) ?_|fail);all_goals first
   |rfl
   |trace_state
end
section
variable {c:Ck} (hc:c.ok) {p q:Pf} {r0 r1:Rs}
include hc
theorem UQ{k:Int}(hk:k=10\/k=14){f:Fm}{t:Tm}(hf:f.full<=300000)(ht:t.full<=300000)
 (hpa:PC E 188 [.agg c.view,.agg p.view,.agg (f.args.getD 0 A7).view,.agg t.view] (.AD [.s .int (y4 r0 c (f.args.getD 0 A7) t).1,.i (y4 r0 c (f.args.getD 0 A7) t).2]))
 (hua:A5 c.tys.length (y4 r0 c (f.args.getD 0 A7) t).1):
 PC E 146 [.agg c.view,.agg (Pf.mk k 0 (.mk 0 []) [t] [f] [p]).view] (Cu (Kt k f t r0 c)):=by
 have hl:=hc.len;have hsum:=hc.sum;have hul:=hua.len;have h1:=Ml c.tys f (by omega) (by omega);have h2:=OI c.tys t (by omega) (by omega);unfold Kt;generalize y4 r0 c (f.args.getD 0 A7) t=pr at*;by_cases t0:yq c.tys f=0;case neg=>
  rw[if_pos t0];refine M.F Tryz.func146 ?_;(repeat' first|refine M.go ?_|refine M.c2 (h1) ?_|refine M.z1 5 ?_|refine M.cs ?_ ?_<;>intro h|refine M.gk ?_|fail);all_goals first
   |rfl
   |(exfalso;simp at h;exact t0 h)
 rw[if_neg (by simp[t0])];rw[t0] at h1;obtain⟨fe,fo⟩:=xo t0;have s0:=(Fm.Ad _).1 fe;by_cases hkd:f.kind=kI k 14 7 5;case neg=>
  rw[if_pos hkd];rcases hk with rfl|rfl;all_goals
   refine M.F Tryz.func146 ?_;(repeat' first|refine M.go ?_|refine M.c2 (h1) ?_|refine M.z1 10 ?_|refine M.cs ?_ ?_<;>intro h|refine M.gk ?_|fail);all_goals first
    |rfl
    |(exfalso;simp at h;exact hkd h)
    |trace_state
 rw[if_neg (by simp[hkd])];have hkk:4<=f.kind/\f.kind<=7:=by rw[hkd,kI];split<;>omega
 obtain⟨x,e⟩:=GX s0.1 hkk;have hx:f.args.getD 0 A7=x:=by rw[e];rfl
 have hte:=HE s0.1 hkk;have hsame:=xh _ f.ty (yz c.tys t).1 (Wj _) (by have:=((Ty.Ad _).1 hte).2;omega);rw[hx] at hpa;by_cases t1:(yz c.tys t).2=0;case neg=>
  rw[if_pos t1];clear hsame hte;generalize f.ty=s at*;rw[hkd] at e;subst e;rcases hk with rfl|rfl;all_goals
   simp only[kI] at*;refine M.F Tryz.func146 ?_;(repeat' first|refine M.go ?_|refine M.c2 (h1) ?_|refine M.c2 (h2) ?_|refine M.z1 13 ?_|refine M.cs ?_ ?_<;>intro h|refine M.gk ?_|fail);all_goals first
    |rfl
    |(exfalso;simp at h;exact t1 h)
    |trace_state
 rw[if_neg (by simp[t1])];rw[t1] at h2;obtain⟨_,te,ti,_⟩:=Kk t1;have hfr:=Mi t te ti (by omega);have hfl:=(v3 ti).len;have hun:=uy pr.1 (E4 t) (by omega) (by omega);by_cases hts:f.ty=(yz c.tys t).1;case neg=>
  rw[if_pos hts];rw[decide_eq_false hts] at hsame;clear hte;generalize f.ty=s at*;rw[hkd] at e;subst e;rcases hk with rfl|rfl;all_goals
   simp only[kI] at*;refine M.F Tryz.func146 ?_;(repeat' first|refine M.gw ?_|refine M.c2 (h1) ?_|refine M.c2 (h2) ?_|refine M.c2 (hsame) ?_|fail);all_goals first
    |rfl
    |trace_state
 rw[if_neg (by simp[hts])];rw[decide_eq_true hts] at hsame;clear hte;generalize f.ty=s at*;rw[hkd] at e;subst e;rcases hk with rfl|rfl;all_goals
  simp only[kI] at*;refine M.F Tryz.func146 ?_;(repeat' first|refine M.gw ?_|refine M.c2 (h1) ?_|refine M.c2 (h2) ?_|refine M.c2 (hsame) ?_|refine M.c2 (hpa) ?_|refine M.c2 (hfr) ?_|refine M.c2 (hun) ?_|fail);all_goals first
   |rfl
   |trace_state
theorem Yij{f:Fm}{t:Tm}(hf:f.full<=300000)(ht:t.full<=300000)
 (hpa:PC E 188 [.agg c.view,.agg p.view,.agg f.view,.agg zT.view] (.AD [.s .int (y4 r0 c f zT).1,.i (y4 r0 c f zT).2]))
 (hpb:((c.below [Ag]).AA f).ok->PC E 188 [.agg ((c.below [Ag]).AA f).view,.agg q.view,.agg (f.A9 1 1).view,.agg (sT (vT 0)).view] (.AD [.s .int (y4 r1 ((c.below [Ag]).AA f) (f.A9 1 1) (sT (vT 0))).1,.i (y4 r1 ((c.below [Ag]).AA f) (f.A9 1 1) (sT (vT 0))).2]))
 (hua:A5 c.tys.length (y4 r0 c f zT).1) (hub:((c.below [Ag]).AA f).ok->A5 (c.tys.length+1) (y4 r1 ((c.below [Ag]).AA f) (f.A9 1 1) (sT (vT 0))).1):
 PC E 148 [.agg c.view,.agg (Pf.mk 16 0 (.mk 0 []) [t] [f] [p,q]).view] (Cu (KB f t r0 r1 c)):=by
 have hl:=hc.len;have hn:=hc.nh;have hsum:=hc.sum;have hul:=hua.len;have h1:=Nt (c.tys++[Ag]) f (by omega) (hc.one GZ) (by simp;omega);have h2:=O2 c t 1 (by omega) (by omega);have h3:=CH 4 [] (by simp);have h4:=LR c 1 1 (by omega) (by omega);have h5:=vk;have h6:=M8 c hc [Ag] (by simp) (by simp);have h7:=Nj (c.below [Ag]) f (by simp[Ck.below];omega);have h9:=Ek 0;have h10:=CH 5 [vT 0] (by simp[vT,Tm.full,Tm.Au,Ty.size,Ty.sizes]);have h11:=Jz f t (by omega) (by omega);unfold KB;generalize hA:y4 r0 c f zT=a at*;generalize hB:y4 r1 ((c.below [Ag]).AA f) (f.A9 1 1) (sT (vT 0))=b at*;by_cases e0:vi (c.tys++[Ag]) f=0;case neg=>
  rw[if_pos e0];refine M.F Tryz.func148 ?_;(repeat' first|refine M.go ?_|refine M.c2 (h5) ?_|refine M.c2 (h1) ?_|refine M.z1 5 ?_|refine M.cs ?_ ?_<;>intro h|refine M.gk ?_|fail);all_goals first
   |rfl
   |(exfalso;simp at h;exact e0 h)
   |trace_state
 rw[if_neg (by simp[e0])];rw[e0] at h1;obtain⟨f1,f2⟩:=u6 (hc.one GZ) e0;have s0:=(Fm.Ad _).1 f1;by_cases e1:E2 c t 1=0;case neg=>
  rw[if_pos e1];refine M.F Tryz.func148 ?_;(repeat' first|refine M.go ?_|refine M.c2 (h5) ?_|refine M.c2 (h1) ?_|refine M.c2 (h2) ?_|refine M.z1 8 ?_|refine M.cs ?_ ?_<;>intro h|refine M.gk ?_|fail);all_goals first
   |rfl
   |(exfalso;simp at h;exact e1 h)
   |trace_state
 rw[if_neg (by simp[e1])];rw[e1] at h2;obtain⟨te,ti⟩:=Qf e1;by_cases e2:a.2=0;case neg=>
  rw[if_pos e2];refine M.F Tryz.func148 ?_;(repeat' first|refine M.go ?_|refine M.c2 (h5) ?_|refine M.c2 (h1) ?_|refine M.c2 (h2) ?_|refine M.c2 (h3) ?_|refine M.c2 (hpa) ?_|refine M.z1 11 ?_|refine M.cs ?_ ?_<;>intro h|refine M.gk ?_|fail);all_goals first
   |rfl
   |(exfalso;simp at h;exact e2 h)
   |trace_state
 rw[if_neg (by simp[e2])];rw[e2] at hpa;by_cases e3:c.room 1 1=0;case neg=>
  rw[if_pos e3];rw[KG e3] at h4;refine M.F Tryz.func148 ?_;(repeat' first|refine M.gw ?_|refine M.c2 (h5) ?_|refine M.c2 (h1) ?_|refine M.c2 (h2) ?_|refine M.c2 (h3) ?_|refine M.c2 (hpa) ?_|refine M.c2 (h4) ?_|fail);all_goals first
   |rfl
   |trace_state
 rw[if_neg (by simp[e3])];rw[e3] at h4;have hr:=wj e3;have hb:((c.below [Ag]).AA f).ok:=(hc.below (l:=[Ag]) hr.1 (by simp[GZ])).AA (by simpa[Ck.below] using hr.2) f1 f2;have h8:=E1 f2 s0.1 (by omega) (by simp;omega) 1 1 (by omega) (by omega);have h12:=hpb hb;have hub':=hub hb;by_cases e4:b.2=0;case neg=>
  rw[if_pos e4];refine M.F Tryz.func148 ?_;(repeat' first|refine M.go ?_|refine M.c2 (h5) ?_|refine M.c2 (h1) ?_|refine M.c2 (h2) ?_|refine M.c2 (h3) ?_|refine M.c2 (hpa) ?_|refine M.c2 (h4) ?_|refine M.c2 (h6) ?_|refine M.c2 (h7) ?_|refine M.c2 (h8) ?_|refine M.c2 (h9) ?_|refine M.c2 (h10) ?_|refine M.c2 (h12) ?_|refine M.z1 17 ?_|refine M.cs ?_ ?_<;>intro h|refine M.gk ?_|fail);all_goals first
   |rfl
   |(exfalso;simp at h;exact e4 h)
   |trace_state
 rw[if_neg (by simp[e4])];rw[e4] at h12;have hfr:=Mi t te ti (by omega);have hfl:=(v3 ti).len;have hun:=uy (E4 t) a.1 (by omega) (by omega);have hlu:A5 c.tys.length (vp (E4 t) a.1):= .union (v3 ti).2 hua.2;have hll:=hlu.len;have hbl:=hub'.len;have hou:=Nr b.1 1 (by omega) (by omega) (fun x hx=>by have:=hub'.2 x hx;omega);have hol:=NY b.1 1;have hun2:=uy (vp (E4 t) a.1) (DR b.1 1) (by omega) (by omega);refine M.F Tryz.func148 ?_;(repeat' first|refine M.gw ?_|refine M.c2 (h5) ?_|refine M.c2 (h1) ?_|refine M.c2 (h2) ?_|refine M.c2 (h3) ?_|refine M.c2 (hpa) ?_|refine M.c2 (h4) ?_|refine M.c2 (h6) ?_|refine M.c2 (h7) ?_|refine M.c2 (h8) ?_|refine M.c2 (h9) ?_|refine M.c2 (h10) ?_|refine M.c2 (h12) ?_|refine M.c2 (h11) ?_|refine M.c2 (hfr) ?_|refine M.c2 (hun) ?_|refine M.c2 (hou) ?_|refine M.c2 (hun2) ?_|fail);all_goals first
  |rfl
  |trace_state
end
section
variable {c:Ck} (hc:c.ok) {p q:Pf} {r0 r1:Rs}
include hc
theorem TG{k:Int}(hk:k=11\/k=15){f0 f1:Fm}{u0 u1:List Int}{e0 e1:Int}(hr0:r0 c=(f0,u0,e0))(hr1:GV r1 c f0=(f1,u1,e1))
 (hp:PC E 74 [.agg c.view,.agg p.view] (DF f0 u0 e0)) (o0:FF c (f0,u0,e0))
 (hq:((c.below [f0.ty]).AA (f0.args.getD 0 A7)).ok->PC E 74 [.agg ((c.below [f0.ty]).AA (f0.args.getD 0 A7)).view,.agg q.view] (DF f1 u1 e1))
 (o1:((c.below [f0.ty]).AA (f0.args.getD 0 A7)).ok->FF ((c.below [f0.ty]).AA (f0.args.getD 0 A7)) (f1,u1,e1)):
 PC E 147 [.agg c.view,.agg (Pf.mk k 0 (.mk 0 []) [] [] [p,q]).view] (Cu (KX k r0 r1 c)):=by
 have hl:=hc.len;have hn:=hc.nh;have b0:=F7 hc o0;unfold KX;rw[hr0];simp only[hr1];by_cases he:e0=0;case neg=>
  rw[if_pos he];refine M.F Tryz.func147 ?_;(repeat' first|refine M.go ?_|refine M.c2 (hp) ?_|refine M.z1 4 ?_|refine M.cs ?_ ?_<;>intro h|refine M.gk ?_|fail);all_goals first
   |rfl
   |(exfalso;simp at h;exact he h)
   |trace_state
 subst he;rw[if_neg (by simp)];have ho:=o0.1 rfl;have s0:=(Fm.Ad _).1 ho.1;by_cases hkd:f0.kind=kI k 15 7 5;case neg=>
  rw[if_pos hkd];rcases hk with rfl|rfl;all_goals
   refine M.F Tryz.func147 ?_;(repeat' first|refine M.go ?_|refine M.c2 (hp) ?_|refine M.z1 9 ?_|refine M.cs ?_ ?_<;>intro h|refine M.gk ?_|fail);all_goals first
    |rfl
    |(exfalso;simp at h;exact hkd h)
    |trace_state
 rw[if_neg (by simp[hkd])];have hkk:4<=f0.kind/\f0.kind<=7:=by rw[hkd,kI];split<;>omega
 obtain⟨x,e⟩:=GX s0.1 hkk;have hx:f0.args.getD 0 A7=x:=by simp only at e;rw[e];rfl
 have hte:=HE s0.1 hkk;have ex:=vf ho.1 (x:=x) (by simp only at e;rw[show(f0,u0,(0:Int)).1=f0 from rfl,e];simp[Br]);have ok0:=ho.2.1;simp only at e hte ok0;rw[e] at ok0;have o1':=I3 hkk ok0;rw[hx] at hq o1;clear ok0 hr1 hr0 s0 hx;generalize f0.ty=s at*;rw[hkd] at e;subst e;have h1:=LR c 1 1 (by omega) (by omega);by_cases hr:c.room 1 1=0;case neg=>
  rw[if_pos hr];rw[KG hr] at h1;rcases hk with rfl|rfl;all_goals
   simp only[kI] at*;refine M.F Tryz.func147 ?_;(repeat' first|refine M.gw ?_|refine M.c2 (hp) ?_|refine M.c2 (h1) ?_|fail);all_goals first
    |rfl
    |trace_state
 rw[if_neg (by simp[hr])];have hro:=wj hr;rw[hr] at h1;have hb:((c.below [s]).AA x).ok:=(hc.below (l:=[s]) hro.1 (by simpa using hte)).AA (by simpa[Ck.below] using hro.2) ex o1';have h2:=M8 c hc [s] (by simp) (by simp);have h3:=Nj (c.below [s]) x (by simp[Ck.below];omega);have h4:=hq hb;have o1b:=o1 hb;have b1:=F7 hb o1b;by_cases he1:e1=0;case neg=>
  rw[if_pos he1];rcases hk with rfl|rfl;all_goals
   simp only[kI] at*;refine M.F Tryz.func147 ?_;(repeat' first|refine M.go ?_|refine M.c2 (hp) ?_|refine M.c2 (h1) ?_|refine M.c2 (h2) ?_|refine M.c2 (h3) ?_|refine M.c2 (h4) ?_|refine M.z1 15 ?_|refine M.cs ?_ ?_<;>intro h|refine M.gk ?_|fail);all_goals first
    |rfl
    |(exfalso;simp at h;exact he1 h)
    |trace_state
 subst he1;rw[if_neg (by simp)];have hf1:=o1b.1 rfl;simp only at hf1;have s1:=(Fm.Ad _).1 hf1.1;have h5:=Tg _ f1 0 (Wj _) (by omega) (by omega) (by omega) s1.1;have hu:=VG u1;have hou:=Nr u1 1 (by omega) (by omega) b1.2.2;have hol:=NY u1 1;have hun:=uy u0 (DR u1 1) (by omega) (by omega);have h6:=Zvg _ f1 (Wj _) (by omega);by_cases t0:y7 0 f1=0;case pos=>
  have ef:Ez f1=(f1,0):=by unfold Ez;rw[if_pos t0]
  rw[ef];rw[decide_eq_false (by simp[t0])] at h5;have h7:=h6;have hup:=E1 (hf1.2.1) s1.1 (by omega) (by simp[Ck.below,Ck.AA];omega) 1 (-1) (by omega) (by omega);rw[if_neg (by simp)];rcases hk with rfl|rfl
  .rw[if_neg (by simp)];simp only[kI] at*;refine M.F Tryz.func147 ?_;(repeat' first|refine M.gw ?_|refine M.c2 (hp) ?_|refine M.c2 (h1) ?_|refine M.c2 (h2) ?_|refine M.c2 (h3) ?_|refine M.c2 (h4) ?_|refine M.c2 (h5) ?_|refine M.c2 (hup) ?_|refine M.c2 (hou) ?_|refine M.c2 (hun) ?_|fail);all_goals first
    |rfl
    |trace_state
  .simp only[kI] at*;cases hh:Jw u1 with
   |true=>
    rw[hh] at hu;rw[if_pos (by simp)];refine M.F Tryz.func147 ?_;(repeat' first|refine M.gw ?_|refine M.c2 (hp) ?_|refine M.c2 (h1) ?_|refine M.c2 (h2) ?_|refine M.c2 (h3) ?_|refine M.c2 (h4) ?_|refine M.c2 (h5) ?_|refine M.c2 (hu) ?_|fail);all_goals first
     |rfl
     |trace_state
   |false=>
    rw[hh] at hu;rw[if_neg (by simp)];refine M.F Tryz.func147 ?_;(repeat' first|refine M.gw ?_|refine M.c2 (hp) ?_|refine M.c2 (h1) ?_|refine M.c2 (h2) ?_|refine M.c2 (h3) ?_|refine M.c2 (h4) ?_|refine M.c2 (h5) ?_|refine M.c2 (hu) ?_|refine M.c2 (hup) ?_|refine M.c2 (hou) ?_|refine M.c2 (hun) ?_|fail);all_goals first
     |rfl
     |trace_state
 rw[decide_eq_true t0] at h5;by_cases n0:(xw f1).2=0;case neg=>
  have ef:Ez f1=(A7,(xw f1).2):=by unfold Ez;rw[if_neg t0,if_pos n0]
  rw[ef,if_pos n0];rcases hk with rfl|rfl;all_goals
   simp only[kI] at*;refine M.F Tryz.func147 ?_;(repeat' first|refine M.go ?_|refine M.c2 (hp) ?_|refine M.c2 (h1) ?_|refine M.c2 (h2) ?_|refine M.c2 (h3) ?_|refine M.c2 (h4) ?_|refine M.c2 (h5) ?_|refine M.c2 (h6) ?_|refine M.z1 20 ?_|refine M.cs ?_ ?_<;>intro h|refine M.gk ?_|fail);all_goals first
    |rfl
    |(exfalso;simp at h;exact n0 h)
    |trace_state
 rw[n0] at h6;obtain⟨nk,ns,nz,no⟩:=S6 f1 n0 s1.1;have nfl:=ux (xw f1).1 ns;have h7:=Tg _ (xw f1).1 0 (Wj _) (by omega) (by omega) (by omega) ns;by_cases n1:y7 0 (xw f1).1=0;case neg=>
  have ef:Ez f1=(A7,6):=by unfold Ez;rw[if_neg t0,if_neg (by simp[n0]),if_pos n1]
  rw[ef,if_pos (by decide)];rw[decide_eq_true n1] at h7;rcases hk with rfl|rfl;all_goals
   simp only[kI] at*;refine M.F Tryz.func147 ?_;(repeat' first|refine M.gw ?_|refine M.c2 (hp) ?_|refine M.c2 (h1) ?_|refine M.c2 (h2) ?_|refine M.c2 (h3) ?_|refine M.c2 (h4) ?_|refine M.c2 (h5) ?_|refine M.c2 (h6) ?_|refine M.c2 (h7) ?_|fail);all_goals first
    |rfl
    |trace_state
 case pos=>
  have ef:Ez f1=((xw f1).1,0):=by unfold Ez;rw[if_neg t0,if_neg (by simp[n0]),if_neg (by simp[n1])]
  rw[ef];rw[decide_eq_false (by simp[n1])] at h7;have hup:=E1 (no _ hf1.2.1) ns (by omega) (by simp[Ck.below,Ck.AA];omega) 1 (-1) (by omega) (by omega);rw[if_neg (by simp)];rcases hk with rfl|rfl
  .rw[if_neg (by simp)];simp only[kI] at*;refine M.F Tryz.func147 ?_;(repeat' first|refine M.gw ?_|refine M.c2 (hp) ?_|refine M.c2 (h1) ?_|refine M.c2 (h2) ?_|refine M.c2 (h3) ?_|refine M.c2 (h4) ?_|refine M.c2 (h5) ?_|refine M.c2 (h6) ?_|refine M.c2 (h7) ?_|refine M.c2 (hup) ?_|refine M.c2 (hou) ?_|refine M.c2 (hun) ?_|fail);all_goals first
    |rfl
    |trace_state
  .simp only[kI] at*;cases hh:Jw u1 with
   |true=>
    rw[hh] at hu;rw[if_pos (by simp)];refine M.F Tryz.func147 ?_;(repeat' first|refine M.gw ?_|refine M.c2 (hp) ?_|refine M.c2 (h1) ?_|refine M.c2 (h2) ?_|refine M.c2 (h3) ?_|refine M.c2 (h4) ?_|refine M.c2 (h5) ?_|refine M.c2 (h6) ?_|refine M.c2 (h7) ?_|refine M.c2 (hu) ?_|fail);all_goals first
     |rfl
     |trace_state
   |false=>
    rw[hh] at hu;rw[if_neg (by simp)];refine M.F Tryz.func147 ?_;(repeat' first|refine M.gw ?_|refine M.c2 (hp) ?_|refine M.c2 (h1) ?_|refine M.c2 (h2) ?_|refine M.c2 (h3) ?_|refine M.c2 (h4) ?_|refine M.c2 (h5) ?_|refine M.c2 (h6) ?_|refine M.c2 (h7) ?_|refine M.c2 (hu) ?_|refine M.c2 (hup) ?_|refine M.c2 (hou) ?_|refine M.c2 (hun) ?_|fail);all_goals first
     |rfl
     |trace_state
end
section
variable {c:Ck} (hc:c.ok) {p q:Pf} {r0 r1:Rs}
include hc
theorem Zzm{f:Fm}{f0:Fm}{u0:List Int}{e0:Int}(hr0:r0 c=(f0,u0,e0))(hf:f.full<=300000)
 (hp:PC E 74 [.agg c.view,.agg p.view] (DF f0 u0 e0)) (o0:FF c (f0,u0,e0))
 (hpb:∀t:Tm,t.full<=300000->PC E 188 [.agg c.view,.agg q.view,.agg f.view,.agg t.view] (.AD [.s .int (y4 r1 c f t).1,.i (y4 r1 c f t).2])):
 PC E 151 [.agg c.view,.agg (Pf.mk 19 0 (.mk 0 []) [] [f] [p,q]).view] (Cu (Kj f r0 r1 c)):=by
 have hl:=hc.len;have hsum:=hc.sum;have h1:=Nt (c.tys++[Ag]) f (by omega) (hc.one GZ) (by simp;omega);have h5:=vk;unfold Kj;rw[hr0];by_cases t0:vi (c.tys++[Ag]) f=0;case neg=>
  rw[if_pos t0];refine M.F Tryz.func151 ?_;(repeat' first|refine M.go ?_|refine M.c2 (h5) ?_|refine M.c2 (h1) ?_|refine M.z1 5 ?_|refine M.cs ?_ ?_<;>intro h|refine M.gk ?_|fail);all_goals first
   |rfl
   |(exfalso;simp at h;exact t0 h)
   |trace_state
 rw[if_neg (by simp[t0])];rw[t0] at h1;by_cases he:e0=0;case neg=>
  rw[if_pos he];refine M.F Tryz.func151 ?_;(repeat' first|refine M.go ?_|refine M.c2 (h5) ?_|refine M.c2 (h1) ?_|refine M.c2 (hp) ?_|refine M.z1 8 ?_|refine M.cs ?_ ?_<;>intro h|refine M.gk ?_|fail);all_goals first
   |rfl
   |(exfalso;simp at h;exact he h)
   |trace_state
 subst he;rw[if_neg (by simp)];by_cases hk:f0.kind=1;case neg=>
  rw[if_pos hk];refine M.F Tryz.func151 ?_;(repeat' first|refine M.go ?_|refine M.c2 (h5) ?_|refine M.c2 (h1) ?_|refine M.c2 (hp) ?_|refine M.z1 10 ?_|refine M.cs ?_ ?_<;>intro h|refine M.gk ?_|fail);all_goals first
   |rfl
   |(exfalso;simp at h;exact hk h)
   |trace_state
 rw[if_neg (by simp[hk])];have ho:=o0.1 rfl;obtain⟨x,y,e⟩:=Py ((Fm.Ad _).1 ho.1).1 hk;simp only at e;subst e;have ex:=RK ho.1 (t:=x) (by simp[Bf]);have ey:=RK ho.1 (t:=y) (by simp[Bf]);have h2:=hpb x (by have:=z6 ex;omega);have h3:=Jz f y (by omega) (by have:=z6 ey;omega);have e1:((Bf x y).terms.getD 0 A4)=x:=rfl;have e2:((Bf x y).terms.getD 1 A4)=y:=rfl;simp only[e1,e2];generalize y4 r1 c f x=a at*;by_cases ea:a.2=0;case neg=>
  rw[if_pos ea];refine M.F Tryz.func151 ?_;(repeat' first|refine M.go ?_|refine M.c2 (h5) ?_|refine M.c2 (h1) ?_|refine M.c2 (hp) ?_|refine M.c2 (h2) ?_|refine M.z1 13 ?_|refine M.cs ?_ ?_<;>intro h|refine M.gk ?_|fail);all_goals first
   |rfl
   |(exfalso;simp at h;exact ea h)
   |trace_state
 rw[if_neg (by simp[ea])];rw[ea] at h2;refine M.F Tryz.func151 ?_;(repeat' first|refine M.gw ?_|refine M.c2 (h5) ?_|refine M.c2 (h1) ?_|refine M.c2 (hp) ?_|refine M.c2 (h2) ?_|refine M.c2 (h3) ?_|fail);all_goals first
  |rfl
  |trace_state
theorem Zw3{f0:Fm}{u0:List Int}{e0:Int}(hr0:r0 c=(f0,u0,e0))
 (hp:PC E 74 [.agg c.view,.agg p.view] (DF f0 u0 e0)) (o0:FF c (f0,u0,e0)):
 PC E 152 [.agg c.view,.agg (Pf.mk 20 0 (.mk 0 []) [] [] [p]).view] (Cu (LV r0 c)):=by
 have hl:=hc.len;unfold LV;rw[hr0];by_cases he:e0=0;case neg=>
  rw[if_pos he];refine M.F Tryz.func152 ?_;(repeat' first|refine M.go ?_|refine M.c2 (hp) ?_|refine M.z1 4 ?_|refine M.cs ?_ ?_<;>intro h|refine M.gk ?_|fail);all_goals first
   |rfl
   |(exfalso;simp at h;exact he h)
   |trace_state
 subst he;rw[if_neg (by simp)];have ho:=o0.1 rfl;have s0:=(Fm.Ad _).1 ho.1;by_cases hk:f0.kind=4;case neg=>
  rw[if_pos (.inl hk)];refine M.F Tryz.func152 ?_;(repeat' first|refine M.go ?_|refine M.c2 (hp) ?_|refine M.gs ?_ ?_<;>intro h|refine M.z1 6 ?_|refine M.cs ?_ ?_<;>intro h|refine M.gk ?_|fail);all_goals first
   |rfl
   |(exfalso;simp at h;exact hk h)
   |(exfalso;rename_i h1;simp at h1;exact hk h1)
   |trace_state
 obtain⟨x,e⟩:=GX s0.1 (by simp only;omega);have hte:=HE s0.1 (by simp only;omega);simp only at e hte;have ex:=vf ho.1 (x:=x) (by rw[show(f0,u0,(0:Int)).1=f0 from rfl,e];simp[Br]);have sx:=(Fm.Ad _).1 ex;have ok0:=ho.2.1;simp only at ok0;generalize f0.ty=s at*;rw[hk] at e;subst e;have e1:((Br 4 s x).args.getD 0 A7)=x:=rfl;have o1:=I3 (by omega) ok0;by_cases hk2:x.kind=5;case neg=>
  rw[if_pos (.inr (by rw[e1];exact hk2))];refine M.F Tryz.func152 ?_;(repeat' first|refine M.go ?_|refine M.c2 (hp) ?_|refine M.z1 6 ?_|refine M.cs ?_ ?_<;>intro h|refine M.gk ?_|fail);all_goals first
   |rfl
   |(exfalso;simp at h;exact hk2 h)
   |trace_state
 rw[if_neg (by rintro(h|h);exact h hk;exact h (by rw[e1];exact hk2))];obtain⟨y,e⟩:=GX sx.1 (by omega);have hte2:=HE sx.1 (by omega);have ey:=vf ex (x:=y) (by rw[e];simp[Br]);have sy:=(Fm.Ad _).1 ey;generalize x.ty=u at*;rw[hk2] at e;subst e;have o2:=I3 (by omega) o1;have zs:=((Ty.Ad s).1 hte).2;have zu:=((Ty.Ad u).1 hte2).2;have h1:=IJ s u (by omega) (by omega);have h2:=u9 (yv s u) (by simp only[yv,Ty.size,Ty.sizes];omega);have e2:Li (Br 4 s (Br 5 u y))=yv s u:=rfl;have e3:Lo (Br 4 s (Br 5 u y))=Du (y.A9 2 1) ED:=rfl;simp only[e2,e3];by_cases ef:(yv s u).err=0;case neg=>
  rw[if_pos ef];refine M.F Tryz.func152 ?_;(repeat' first|refine M.go ?_|refine M.c2 (hp) ?_|refine M.c2 (h1) ?_|refine M.c2 (h2) ?_|refine M.z1 10 ?_|refine M.cs ?_ ?_<;>intro h|refine M.gk ?_|fail);all_goals first
   |rfl
   |(exfalso;simp at h;exact ef h)
   |trace_state
 rw[if_neg (by simp[ef])];rw[ef] at h2;have h3:=E1 o2 sy.1 (by omega) (by simp;omega) 2 1 (by omega) (by omega);have h4:=Ek 1;have h4':=Ek 0;have h5:=CH 3 [vT 1,vT 0] (by simp[vT,Tm.full,Tm.Au,Ty.size,Ty.sizes]);have hlf:=I6 sy.1 (fr:=2) (by_:=1) (by omega);have h6:=Jz (y.A9 2 1) ED (by rw[hlf.2.2];have:=ye ey;omega) (by decide);have hb:=Sr (y.A9 2 1) ED;have h7:=FO 4 s (Du (y.A9 2 1) ED).1 (by omega) (by omega);have h8:=FO 5 (yv s u) (.mk 4 s [] [(Du (y.A9 2 1) ED).1]) (by simp only[yv,Ty.size,Ty.sizes];omega) (by simp only[Fm.full,Fm.Au,WI,WU];omega);refine M.F Tryz.func152 ?_;(repeat' first|refine M.gw ?_|refine M.c2 (hp) ?_|refine M.c2 (h1) ?_|refine M.c2 (h2) ?_|refine M.c2 (h3) ?_|refine M.c2 (h4) ?_|refine M.c2 (h4') ?_|refine M.c2 (h5) ?_|refine M.c2 (h6) ?_|refine M.c2 (h7) ?_|refine M.c2 (h8) ?_|fail);all_goals first
  |rfl
  |trace_state
end
section
variable {c:Ck} (hc:c.ok) {p q:Pf} {r0 r1:Rs}
include hc
theorem Ydq{f:Fm}{t:Tm}(hf:f.full<=300000)(ht:t.full<=300000)
 (hpa:PC E 188 [.agg c.view,.agg p.view,.agg f.view,.agg Dv.view] (.AD [.s .int (y4 r0 c f Dv).1,.i (y4 r0 c f Dv).2]))
 (hpb:((c.below [Ag,An]).AA (f.A9 1 1)).ok->PC E 188 [.agg ((c.below [Ag,An]).AA (f.A9 1 1)).view,.agg q.view,.agg (f.A9 1 2).view,.agg Ci.view] (.AD [.s .int (y4 r1 ((c.below [Ag,An]).AA (f.A9 1 1)) (f.A9 1 2) Ci).1,.i (y4 r1 ((c.below [Ag,An]).AA (f.A9 1 1)) (f.A9 1 2) Ci).2]))
 (hua:A5 c.tys.length (y4 r0 c f Dv).1) (hub:((c.below [Ag,An]).AA (f.A9 1 1)).ok->A5 (c.tys.length+2) (y4 r1 ((c.below [Ag,An]).AA (f.A9 1 1)) (f.A9 1 2) Ci).1):
 PC E 149 [.agg c.view,.agg (Pf.mk 17 0 (.mk 0 []) [t] [f] [p,q]).view] (Cu (K4 f t r0 r1 c)):=by
 have hl:=hc.len;have hn:=hc.nh;have hsum:=hc.sum;have hul:=hua.len;have h1:=Nt (c.tys++[An]) f (by omega) (hc.one Lg) (by simp;omega);have h2:=O2 c t 2 (by omega) (by omega);have h3:=CH 7 [] (by simp);have h4:=LR c 2 1 (by omega) (by omega);have h5:=vk;have h6:=M8 c hc [Ag,An] (by simp) (by simp);have h7:=Nj (c.below [Ag,An]) (f.A9 1 1) (by simp[Ck.below];omega);have h9:=Ek 0;have h9':=Ek 1;have h5':=ul;have h10:=CH 8 [vT 1,vT 0] (by simp[vT,Tm.full,Tm.Au,Ty.size,Ty.sizes]);have h11:=Jz f t (by omega) (by omega);unfold K4;generalize hA:y4 r0 c f Dv=a at*;generalize hB:y4 r1 ((c.below [Ag,An]).AA (f.A9 1 1)) (f.A9 1 2) Ci=b at*;by_cases e0:vi (c.tys++[An]) f=0;case neg=>
  rw[if_pos e0];refine M.F Tryz.func149 ?_;(repeat' first|refine M.go ?_|refine M.c2 (h5') ?_|refine M.c2 (h1) ?_|refine M.z1 5 ?_|refine M.cs ?_ ?_<;>intro h|refine M.gk ?_|fail);all_goals first
   |rfl
   |(exfalso;simp at h;exact e0 h)
   |trace_state
 rw[if_neg (by simp[e0])];rw[e0] at h1;obtain⟨f1,f2⟩:=u6 (hc.one Lg) e0;have s0:=(Fm.Ad _).1 f1;by_cases e1:E2 c t 2=0;case neg=>
  rw[if_pos e1];refine M.F Tryz.func149 ?_;(repeat' first|refine M.go ?_|refine M.c2 (h5') ?_|refine M.c2 (h1) ?_|refine M.c2 (h2) ?_|refine M.z1 8 ?_|refine M.cs ?_ ?_<;>intro h|refine M.gk ?_|fail);all_goals first
   |rfl
   |(exfalso;simp at h;exact e1 h)
   |trace_state
 rw[if_neg (by simp[e1])];rw[e1] at h2;obtain⟨te,ti⟩:=RX e1;by_cases e2:a.2=0;case neg=>
  rw[if_pos e2];refine M.F Tryz.func149 ?_;(repeat' first|refine M.go ?_|refine M.c2 (h5') ?_|refine M.c2 (h1) ?_|refine M.c2 (h2) ?_|refine M.c2 (h3) ?_|refine M.c2 (hpa) ?_|refine M.z1 11 ?_|refine M.cs ?_ ?_<;>intro h|refine M.gk ?_|fail);all_goals first
   |rfl
   |(exfalso;simp at h;exact e2 h)
   |trace_state
 rw[if_neg (by simp[e2])];rw[e2] at hpa;by_cases e3:c.room 2 1=0;case neg=>
  rw[if_pos e3];rw[KG e3] at h4;refine M.F Tryz.func149 ?_;(repeat' first|refine M.gw ?_|refine M.c2 (h5') ?_|refine M.c2 (h1) ?_|refine M.c2 (h2) ?_|refine M.c2 (h3) ?_|refine M.c2 (hpa) ?_|refine M.c2 (h4) ?_|fail);all_goals first
   |rfl
   |trace_state
 rw[if_neg (by simp[e3])];rw[e3] at h4;have hr:=wj e3;have hb:((c.below [Ag,An]).AA (f.A9 1 1)).ok:=(hc.below (l:=[Ag,An]) hr.1 (by simp[GZ,Lg])).AA (by simpa[Ck.below] using hr.2) (LO f1 (by omega)) (by simpa[Ck.below] using Ia (g:=c.tys) (h:=[An]) [Ag] s0.1 f2);have h8:=E1 f2 s0.1 (by omega) (by simp;omega) 1 1 (by omega) (by omega);have h8':=E1 f2 s0.1 (by omega) (by simp;omega) 1 2 (by omega) (by omega);have h12:=hpb hb;have hub':=hub hb;by_cases e4:b.2=0;case neg=>
  rw[if_pos e4];refine M.F Tryz.func149 ?_;(repeat' first|refine M.go ?_|refine M.c2 (h5) ?_|refine M.c2 (h5') ?_|refine M.c2 (h1) ?_|refine M.c2 (h2) ?_|refine M.c2 (h3) ?_|refine M.c2 (hpa) ?_|refine M.c2 (h4) ?_|refine M.c2 (h6) ?_|refine M.c2 (h7) ?_|refine M.c2 (h8) ?_|refine M.c2 (h8') ?_|refine M.c2 (h9) ?_|refine M.c2 (h9') ?_|refine M.c2 (h10) ?_|refine M.c2 (h12) ?_|refine M.z1 17 ?_|refine M.cs ?_ ?_<;>intro h|refine M.gk ?_|fail);all_goals first
   |rfl
   |(exfalso;simp at h;exact e4 h)
   |trace_state
 rw[if_neg (by simp[e4])];rw[e4] at h12;have hfr:=Mi t te ti (by omega);have hfl:=(v3 ti).len;have hun:=uy (E4 t) a.1 (by omega) (by omega);have hlu:A5 c.tys.length (vp (E4 t) a.1):= .union (v3 ti).2 hua.2;have hll:=hlu.len;have hbl:=hub'.len;have hou:=Nr b.1 2 (by omega) (by omega) (fun x hx=>by have:=hub'.2 x hx;omega);have hol:=NY b.1 2;have hun2:=uy (vp (E4 t) a.1) (DR b.1 2) (by omega) (by omega);refine M.F Tryz.func149 ?_;(repeat' first|refine M.gw ?_|refine M.c2 (h5) ?_|refine M.c2 (h5') ?_|refine M.c2 (h1) ?_|refine M.c2 (h2) ?_|refine M.c2 (h3) ?_|refine M.c2 (hpa) ?_|refine M.c2 (h4) ?_|refine M.c2 (h6) ?_|refine M.c2 (h7) ?_|refine M.c2 (h8) ?_|refine M.c2 (h8') ?_|refine M.c2 (h9) ?_|refine M.c2 (h9') ?_|refine M.c2 (h10) ?_|refine M.c2 (h12) ?_|refine M.c2 (h11) ?_|refine M.c2 (hfr) ?_|refine M.c2 (hun) ?_|refine M.c2 (hou) ?_|refine M.c2 (hun2) ?_|fail);all_goals first
  |rfl
  |trace_state
end
end Go.Ab
