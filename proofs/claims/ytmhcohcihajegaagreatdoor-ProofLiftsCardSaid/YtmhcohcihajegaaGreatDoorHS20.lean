/- A part of this seat's proofs. No conditions. -/
import Derived.Test.YtmhcohcihajegaaGreatDoorHS18
namespace Go.Ab
open Go Go.Proofs
set_option maxRecDepth 100000
set_option maxHeartbeats 4000000
set_option linter.all false
theorem Yao(f:Fm)(t:Tm):(Zey f t).1.full<=1200000000:=by
 unfold Zey;by_cases h:xi f 0 t=0
 ·rw[if_pos h];exact Zv4 h
 ·rw[if_neg h];exact Nat.le_trans (by decide:noFm.full<=2) (by decide)
section
variable {c:Ck} (hc:c.ok) {p q:Pf} {f0 f1:Fm} {u0 u1:List Int} {e0 e1:Int}
include hc
theorem Ze4{f:Fm}{t:Tm}(hf:f.full<=1200000000)(ht:t.full<=300000)(hp:PC E 41 [.agg c.view,.agg p.view] (Znj f0 u0 e0))(o0:Zga c (f0,u0,e0)):
 PC E 196 [.agg c.view,.agg p.view,.agg f.view,.agg t.view] (.tup [.s .int (xw (fun _=>(f0,u0,e0)) c f t).1,.i (xw (fun _=>(f0,u0,e0)) c f t).2]):=by
 have b0:=Zvy hc o0;have h1:=Zk5 f t (by omega) (by omega);have hb:=Yao f t;have h2:=Znk (Zey f t).1 f0 (by omega) (by omega);unfold xw;by_cases he:e0=0;case neg=>
  rw[if_pos he];refine M.F Tryz.func196 ?_;(repeat' first|refine M.o1 @hp ?_|refine M.z1 4 ?_|refine M.cs ?_ ?_<;>intro h|refine M.gk ?_|fail);all_goals first
   |rfl
   |(exfalso;simp at h;exact he h)
 subst he;rw[if_neg (by simp)];by_cases h0:(Zey f t).2=0;case neg=>
  rw[if_pos h0];refine M.F Tryz.func196 ?_;(repeat' first|refine M.o2 @hp @h1 ?_|refine M.z1 7 ?_|refine M.cs ?_ ?_<;>intro h|refine M.gk ?_|fail);all_goals first
   |rfl
   |(exfalso;simp at h;exact h0 h)
 rw[if_neg (by simp[h0])];rw[h0] at h1;refine M.F Tryz.func196 ?_;refine M.w3 @hp @h1 @h2 ?_
 rfl
theorem Yfg{k:Int}(hk:k=8\/k=12){s:Ty}(hs:s.err=0)(hp:c.room 1 0=0->PC E 41 [.agg (c.below [s]).view,.agg p.view] (Znj f0 u0 e0))(b0:c.room 1 0=0->f0.full<=266240/\u0.length<=16/\∀x∈u0,0<=x/\x<=1000000):
 PC E 153 [.agg c.view,.agg (Pf.mk k 0 s [] [] [p]).view] (Zc5 (Yip k s (fun _=>(f0,u0,e0)) c)):=by
 have hl:=hc.len;have hn:=hc.nh;have h1:=Zir c 1 0 (by omega) (by omega);have hsz:=((Ty.err_iff s).1 hs).2;unfold Yip;by_cases r0:c.room 1 0=0;case neg=>
  rw[if_pos r0];rw[Zji r0] at h1;refine M.F Tryz.func153 ?_;refine M.w1 @h1 ?_
  rfl
 rw[if_neg (by simp[r0])];rw[r0] at h1;have b:=b0 r0;have h2:=Zh8 c hc [s] (by simp) (by simp);have h3:=hp r0;have h4:=Yeu u0;have h5:=Zub u0 1 (by omega) (by omega) b.2.2;have h6:=Zhl 4 s f0 (by omega) (by omega);have h7:=Zhl 6 s f0 (by omega) (by omega);by_cases he:e0=0;case neg=>
  rw[if_pos he];refine M.F Tryz.func153 ?_;(repeat' first|refine M.o3 @h1 @h2 @h3 ?_|refine M.z1 7 ?_|refine M.cs ?_ ?_<;>intro h|refine M.gk ?_|fail);all_goals first
   |rfl
   |(exfalso;simp at h;exact he h)
   |trace_state
 subst he;rw[if_neg (by simp)];rcases hk with rfl|rfl
 ·rw[if_pos rfl];refine M.F Tryz.func153 ?_;refine M.w5 @h1 @h2 @h3 @h5 @h6 ?_
  rfl
 ·rw[if_neg (by decide)];cases hh:Yf5 u0 with
  |true=>
   rw[hh] at h4;rw[if_pos rfl];refine M.F Tryz.func153 ?_;refine M.w4 @h1 @h2 @h3 @h4 ?_
   rfl
  |false=>
   rw[hh] at h4;rw[if_neg (by simp)];refine M.F Tryz.func153 ?_;refine M.w6 @h1 @h2 @h3 @h4 @h5 @h7 ?_
   rfl
theorem Yi5{k:Int}(hk:k=9\/k=13){t:Tm}(ht:t.full<=300000)(hp:PC E 41 [.agg c.view,.agg p.view] (Znj f0 u0 e0))(o0:Zga c (f0,u0,e0)):
 PC E 154 [.agg c.view,.agg (Pf.mk k 0 (.mk 0 []) [t] [] [p]).view] (Zc5 (atR k t (fun _=>(f0,u0,e0)) c)):=by
 have hl:=hc.len;have hsum:=hc.sum;have b0:=Zvy hc o0;have h1:=Zmw c.tys t (by omega) (by omega);unfold atR;by_cases t0:(xq c.tys t).2=0;case neg=>
  rw[if_pos t0];refine M.F Tryz.func154 ?_;(repeat' first|refine M.o1 @h1 ?_|refine M.z1 5 ?_|refine M.cs ?_ ?_<;>intro h|refine M.gk ?_|fail);all_goals first
   |rfl
   |(exfalso;simp at h;exact t0 h)
 rw[if_neg (by simp[t0])];rw[t0] at h1;obtain⟨_,t1,t2,_⟩:=Zco t0;by_cases he:e0=0;case neg=>
  rw[if_pos he];refine M.F Tryz.func154 ?_;(repeat' first|refine M.o2 @h1 @hp ?_|refine M.z1 8 ?_|refine M.cs ?_ ?_<;>intro h|refine M.gk ?_|fail);all_goals first
   |rfl
   |(exfalso;simp at h;exact he h)
   |(exfalso;simp at h;done)
 subst he;rw[if_neg (by simp)];have hfr:=Zlm t t1 t2 (by omega);have hfl:=(Zam t2).len;have hun:=Zbb u0 (Zes t) (by omega) (by omega);by_cases hkd:f0.kind=kI k 13 6 4;case neg=>
  rw[if_pos hkd];rcases hk with rfl|rfl;all_goals
   refine M.F Tryz.func154 ?_;(repeat' first|refine M.o4 @h1 @hp @hfr @hun ?_|refine M.z1 13 ?_|refine M.cs ?_ ?_<;>intro h|refine M.gk ?_|fail);all_goals first
    |rfl
    |(exfalso;simp at h;exact hkd h)
    |trace_state
 rw[if_neg (by simp[hkd])];have hkk:4<=f0.kind/\f0.kind<=7:=by rw[hkd,kI];split<;>omega
 have s0:=(Fm.err_iff _).1 (o0.1 rfl).1;obtain⟨x,e⟩:=Zkf s0.1 hkk;simp only at e;have ex:=uz (o0.1 rfl).1 (x:=x) (by rw[show(f0,u0,(0:Int)).1=f0 from rfl,e];simp[quF]);have hte:=Zhx s0.1 hkk;have hsame:=wh _ f0.ty (xq c.tys t).1 (Nat.le_refl _) (by have:=((Ty.err_iff _).1 hte).2;simp only at this;omega);have hput:=Zk5 x t (by have:=xg ex;omega) (by omega);have hx:f0.args.getD 0 noFm=x:=by rw[e];rfl
 rw[hx];generalize hty:f0.ty=s at*;by_cases hts:s=(xq c.tys t).1;case neg=>
  rw[if_pos hts];rw[decide_eq_false hts] at hsame;rw[hkd] at e;subst e;rcases hk with rfl|rfl;all_goals
   simp only[kI] at*;refine M.F Tryz.func154 ?_;refine M.w5 @h1 @hp @hfr @hun @hsame ?_;all_goals first
    |rfl
    |trace_state
 rw[if_neg (by simp[hts])];rw[decide_eq_true hts] at hsame;rw[hkd] at e;subst e;rcases hk with rfl|rfl;all_goals
  simp only[kI] at*;refine M.F Tryz.func154 ?_;refine M.w6 @h1 @hp @hfr @hun @hsame @hput ?_;all_goals first
   |rfl
   |trace_state
end
section
variable {c:Ck} (hc:c.ok) {p q:Pf} {r0 r1:Rs}
include hc
theorem Yjd{k:Int}(hk:k=10\/k=14){f:Fm}{t:Tm}(hf:f.full<=300000)(ht:t.full<=300000)
 (hpa:PC E 196 [.agg c.view,.agg p.view,.agg (f.args.getD 0 noFm).view,.agg t.view] (.tup [.s .int (xw r0 c (f.args.getD 0 noFm) t).1,.i (xw r0 c (f.args.getD 0 noFm) t).2]))
 (hua:UsesOk c.tys.length (xw r0 c (f.args.getD 0 noFm) t).1):
 PC E 155 [.agg c.view,.agg (Pf.mk k 0 (.mk 0 []) [t] [f] [p]).view] (Zc5 (exR k f t r0 c)):=by
 have hl:=hc.len;have hsum:=hc.sum;have hul:=hua.len;have h1:=Zig c.tys f (by omega) (by omega);have h2:=Zmw c.tys t (by omega) (by omega);unfold exR;generalize xw r0 c (f.args.getD 0 noFm) t=pr at*;by_cases t0:y6 c.tys f=0;case neg=>
  rw[if_pos t0];refine M.F Tryz.func155 ?_;(repeat' first|refine M.o1 @h1 ?_|refine M.z1 5 ?_|refine M.cs ?_ ?_<;>intro h|refine M.gk ?_|fail);all_goals first
   |rfl
   |(exfalso;simp at h;exact t0 h)
 rw[if_neg (by simp[t0])];rw[t0] at h1;obtain⟨fe,fo⟩:=wy t0;have s0:=(Fm.err_iff _).1 fe;by_cases hkd:f.kind=kI k 14 7 5;case neg=>
  rw[if_pos hkd];rcases hk with rfl|rfl;all_goals
   refine M.F Tryz.func155 ?_;(repeat' first|refine M.o1 @h1 ?_|refine M.z1 10 ?_|refine M.cs ?_ ?_<;>intro h|refine M.gk ?_|fail);all_goals first
    |rfl
    |(exfalso;simp at h;exact hkd h)
    |trace_state
 rw[if_neg (by simp[hkd])];have hkk:4<=f.kind/\f.kind<=7:=by rw[hkd,kI];split<;>omega
 obtain⟨x,e⟩:=Zkf s0.1 hkk;have hx:f.args.getD 0 noFm=x:=by rw[e];rfl
 have hte:=Zhx s0.1 hkk;have hsame:=wh _ f.ty (xq c.tys t).1 (Nat.le_refl _) (by have:=((Ty.err_iff _).1 hte).2;omega);rw[hx] at hpa;by_cases t1:(xq c.tys t).2=0;case neg=>
  rw[if_pos t1];clear hsame hte;generalize f.ty=s at*;rw[hkd] at e;subst e;rcases hk with rfl|rfl;all_goals
   simp only[kI] at*;refine M.F Tryz.func155 ?_;(repeat' first|refine M.o2 @h1 @h2 ?_|refine M.z1 13 ?_|refine M.cs ?_ ?_<;>intro h|refine M.gk ?_|fail);all_goals first
    |rfl
    |(exfalso;simp at h;exact t1 h)
    |trace_state
 rw[if_neg (by simp[t1])];rw[t1] at h2;obtain⟨_,te,ti,_⟩:=Zco t1;have hfr:=Zlm t te ti (by omega);have hfl:=(Zam ti).len;have hun:=Zbb pr.1 (Zes t) (by omega) (by omega);by_cases hts:f.ty=(xq c.tys t).1;case neg=>
  rw[if_pos hts];rw[decide_eq_false hts] at hsame;clear hte;generalize f.ty=s at*;rw[hkd] at e;subst e;rcases hk with rfl|rfl;all_goals
   simp only[kI] at*;refine M.F Tryz.func155 ?_;refine M.w3 @h1 @h2 @hsame ?_;all_goals first
    |rfl
    |trace_state
 rw[if_neg (by simp[hts])];rw[decide_eq_true hts] at hsame;clear hte;generalize f.ty=s at*;rw[hkd] at e;subst e;rcases hk with rfl|rfl;all_goals
  simp only[kI] at*;refine M.F Tryz.func155 ?_;refine M.w6 @h1 @h2 @hsame @hpa @hfr @hun ?_;all_goals first
   |rfl
   |trace_state
theorem Yji{f:Fm}{t:Tm}(hf:f.full<=300000)(ht:t.full<=300000)
 (hpa:PC E 196 [.agg c.view,.agg p.view,.agg f.view,.agg zT.view] (.tup [.s .int (xw r0 c f zT).1,.i (xw r0 c f zT).2]))
 (hpb:((c.below [natT]).with_ f).ok->PC E 196 [.agg ((c.below [natT]).with_ f).view,.agg q.view,.agg (f.lft 1 1).view,.agg (sT (vT 0)).view] (.tup [.s .int (xw r1 ((c.below [natT]).with_ f) (f.lft 1 1) (sT (vT 0))).1,.i (xw r1 ((c.below [natT]).with_ f) (f.lft 1 1) (sT (vT 0))).2]))
 (hua:UsesOk c.tys.length (xw r0 c f zT).1) (hub:((c.below [natT]).with_ f).ok->UsesOk (c.tys.length+1) (xw r1 ((c.below [natT]).with_ f) (f.lft 1 1) (sT (vT 0))).1):
 PC E 157 [.agg c.view,.agg (Pf.mk 16 0 (.mk 0 []) [t] [f] [p,q]).view] (Zc5 (Ygl f t r0 r1 c)):=by
 have hl:=hc.len;have hn:=hc.nh;have hsum:=hc.sum;have hul:=hua.len;have h1:=Zh3 (c.tys++[natT]) f (by omega) (hc.one Zde) (by simp;omega);have h2:=Zyv c t 1 (by omega) (by omega);have h3:=n_c 4 [] (by simp);have h4:=Zir c 1 1 (by omega) (by omega);have h5:=u6;have h6:=Zh8 c hc [natT] (by simp) (by simp);have h7:=Zlj (c.below [natT]) f (by simp[Ck.below];omega);have h9:=Zdf 0;have h10:=n_c 5 [vT 0] (by simp[vT,Tm.full,Tm.fulls,Ty.size,Ty.sizes]);have h11:=Zk5 f t (by omega) (by omega);unfold Ygl;generalize hA:xw r0 c f zT=a at*;generalize hB:xw r1 ((c.below [natT]).with_ f) (f.lft 1 1) (sT (vT 0))=b at*;by_cases e0:uq (c.tys++[natT]) f=0;case neg=>
  rw[if_pos e0];refine M.F Tryz.func157 ?_;(repeat' first|refine M.o2 @h5 @h1 ?_|refine M.z1 5 ?_|refine M.cs ?_ ?_<;>intro h|refine M.gk ?_|fail);all_goals first
   |rfl
   |(exfalso;simp at h;exact e0 h)
   |trace_state
 rw[if_neg (by simp[e0])];rw[e0] at h1;obtain⟨f1,f2⟩:=Zbe (hc.one Zde) e0;have s0:=(Fm.err_iff _).1 f1;by_cases e1:Zp8 c t 1=0;case neg=>
  rw[if_pos e1];refine M.F Tryz.func157 ?_;(repeat' first|refine M.o3 @h5 @h1 @h2 ?_|refine M.z1 8 ?_|refine M.cs ?_ ?_<;>intro h|refine M.gk ?_|fail);all_goals first
   |rfl
   |(exfalso;simp at h;exact e1 h)
   |trace_state
 rw[if_neg (by simp[e1])];rw[e1] at h2;obtain⟨te,ti⟩:=Zmq e1;by_cases e2:a.2=0;case neg=>
  rw[if_pos e2];refine M.F Tryz.func157 ?_;(repeat' first|refine M.o5 @h5 @h1 @h2 @h3 @hpa ?_|refine M.z1 11 ?_|refine M.cs ?_ ?_<;>intro h|refine M.gk ?_|fail);all_goals first
   |rfl
   |(exfalso;simp at h;exact e2 h)
   |trace_state
 rw[if_neg (by simp[e2])];rw[e2] at hpa;by_cases e3:c.room 1 1=0;case neg=>
  rw[if_pos e3];rw[Zji e3] at h4;refine M.F Tryz.func157 ?_;refine M.w6 @h5 @h1 @h2 @h3 @hpa @h4 ?_;all_goals first
   |rfl
   |trace_state
 rw[if_neg (by simp[e3])];rw[e3] at h4;have hr:=v7 e3;have hb:((c.below [natT]).with_ f).ok:=(hc.below (l:=[natT]) hr.1 (by simp[Zde])).with_ (by simpa[Ck.below] using hr.2) f1 f2;have h8:=Zf7 f2 s0.1 (by omega) (by simp;omega) 1 1 (by omega) (by omega);have h12:=hpb hb;have hub':=hub hb;by_cases e4:b.2=0;case neg=>
  rw[if_pos e4];refine M.F Tryz.func157 ?_;(repeat' first|refine M.o6 @h5 @h1 @h2 @h3 @hpa @h4 ?_|refine M.c2 (h6) ?_|refine M.c2 (h7) ?_|refine M.c2 (h8) ?_|refine M.c2 (h9) ?_|refine M.c2 (h10) ?_|refine M.c2 (h12) ?_|refine M.z1 17 ?_|refine M.cs ?_ ?_<;>intro h|refine M.gk ?_|fail);all_goals first
   |rfl
   |(exfalso;simp at h;exact e4 h)
   |trace_state
 rw[if_neg (by simp[e4])];rw[e4] at h12;have hfr:=Zlm t te ti (by omega);have hfl:=(Zam ti).len;have hun:=Zbb (Zes t) a.1 (by omega) (by omega);have hlu:UsesOk c.tys.length (u7 (Zes t) a.1):= .union (Zam ti).2 hua.2;have hll:=hlu.len;have hbl:=hub'.len;have hou:=Zub b.1 1 (by omega) (by omega) (fun x hx=>by have:=hub'.2 x hx;omega);have hol:=Zh0 b.1 1;have hun2:=Zbb (u7 (Zes t) a.1) (Zj9 b.1 1) (by omega) (by omega);refine M.F Tryz.func157 ?_;(repeat' first|refine M.w6 @h5 @h1 @h2 @h3 @hpa @h4 ?_|refine M.c2 (h6) ?_|refine M.c2 (h7) ?_|refine M.c2 (h8) ?_|refine M.c2 (h9) ?_|refine M.c2 (h10) ?_|refine M.c2 (h12) ?_|refine M.c2 (h11) ?_|refine M.c2 (hfr) ?_|refine M.c2 (hun) ?_|refine M.c2 (hou) ?_|refine M.c2 (hun2) ?_|fail);all_goals first
  |rfl
  |trace_state
end
section
variable {c:Ck} (hc:c.ok) {p q:Pf} {r0 r1:Rs}
include hc
theorem Yb6{f:Fm}{f0:Fm}{u0:List Int}{e0:Int}(hr0:r0 c=(f0,u0,e0))(hf:f.full<=300000)
 (hp:PC E 41 [.agg c.view,.agg p.view] (Znj f0 u0 e0)) (o0:Zga c (f0,u0,e0))
 (hpb:∀t:Tm,t.full<=300000->PC E 196 [.agg c.view,.agg q.view,.agg f.view,.agg t.view] (.tup [.s .int (xw r1 c f t).1,.i (xw r1 c f t).2])):
 PC E 160 [.agg c.view,.agg (Pf.mk 19 0 (.mk 0 []) [] [f] [p,q]).view] (Zc5 (Zj2 f r0 r1 c)):=by
 have hl:=hc.len;have hsum:=hc.sum;have h1:=Zh3 (c.tys++[natT]) f (by omega) (hc.one Zde) (by simp;omega);have h5:=u6;unfold Zj2;rw[hr0];by_cases t0:uq (c.tys++[natT]) f=0;case neg=>
  rw[if_pos t0];refine M.F Tryz.func160 ?_;(repeat' first|refine M.o2 @h5 @h1 ?_|refine M.z1 5 ?_|refine M.cs ?_ ?_<;>intro h|refine M.gk ?_|fail);all_goals first
   |rfl
   |(exfalso;simp at h;exact t0 h)
   |trace_state
 rw[if_neg (by simp[t0])];rw[t0] at h1;by_cases he:e0=0;case neg=>
  rw[if_pos he];refine M.F Tryz.func160 ?_;(repeat' first|refine M.o3 @h5 @h1 @hp ?_|refine M.z1 8 ?_|refine M.cs ?_ ?_<;>intro h|refine M.gk ?_|fail);all_goals first
   |rfl
   |(exfalso;simp at h;exact he h)
   |trace_state
 subst he;rw[if_neg (by simp)];by_cases hk:f0.kind=1;case neg=>
  rw[if_pos hk];refine M.F Tryz.func160 ?_;(repeat' first|refine M.o3 @h5 @h1 @hp ?_|refine M.z1 10 ?_|refine M.cs ?_ ?_<;>intro h|refine M.gk ?_|fail);all_goals first
   |rfl
   |(exfalso;simp at h;exact hk h)
   |trace_state
 rw[if_neg (by simp[hk])];have ho:=o0.1 rfl;obtain⟨x,y,e⟩:=Ygm ((Fm.err_iff _).1 ho.1).1 hk;simp only at e;subst e;have ex:=Zt3 ho.1 (t:=x) (by simp[eqF]);have ey:=Zt3 ho.1 (t:=y) (by simp[eqF]);have h2:=hpb x (by have:=yt ex;omega);have h3:=Zk5 f y (by omega) (by have:=yt ey;omega);have e1:((eqF x y).terms.getD 0 noTm)=x:=rfl;have e2:((eqF x y).terms.getD 1 noTm)=y:=rfl;simp only[e1,e2];generalize xw r1 c f x=a at*;by_cases ea:a.2=0;case neg=>
  rw[if_pos ea];refine M.F Tryz.func160 ?_;(repeat' first|refine M.o4 @h5 @h1 @hp @h2 ?_|refine M.z1 13 ?_|refine M.cs ?_ ?_<;>intro h|refine M.gk ?_|fail);all_goals first
   |rfl
   |(exfalso;simp at h;exact ea h)
   |trace_state
 rw[if_neg (by simp[ea])];rw[ea] at h2;refine M.F Tryz.func160 ?_;refine M.w5 @h5 @h1 @hp @h2 @h3 ?_;all_goals first
  |rfl
  |trace_state
theorem Zzp{f0:Fm}{u0:List Int}{e0:Int}(hr0:r0 c=(f0,u0,e0))
 (hp:PC E 41 [.agg c.view,.agg p.view] (Znj f0 u0 e0)) (o0:Zga c (f0,u0,e0)):
 PC E 161 [.agg c.view,.agg (Pf.mk 20 0 (.mk 0 []) [] [] [p]).view] (Zc5 (Ze6 r0 c)):=by
 have hl:=hc.len;unfold Ze6;rw[hr0];by_cases he:e0=0;case neg=>
  rw[if_pos he];refine M.F Tryz.func161 ?_;(repeat' first|refine M.o1 @hp ?_|refine M.z1 4 ?_|refine M.cs ?_ ?_<;>intro h|refine M.gk ?_|fail);all_goals first
   |rfl
   |(exfalso;simp at h;exact he h)
   |trace_state
 subst he;rw[if_neg (by simp)];have ho:=o0.1 rfl;have s0:=(Fm.err_iff _).1 ho.1;by_cases hk:f0.kind=4;case neg=>
  rw[if_pos (.inl hk)];refine M.F Tryz.func161 ?_;(repeat' first|refine M.o1 @hp ?_|refine M.gs ?_ ?_<;>intro h|refine M.z1 6 ?_|refine M.cs ?_ ?_<;>intro h|refine M.gk ?_|fail);all_goals first
   |rfl
   |(exfalso;simp at h;exact hk h)
   |(exfalso;rename_i h1;simp at h1;exact hk h1)
   |trace_state
 obtain⟨x,e⟩:=Zkf s0.1 (by simp only;omega);have hte:=Zhx s0.1 (by simp only;omega);simp only at e hte;have ex:=uz ho.1 (x:=x) (by rw[show(f0,u0,(0:Int)).1=f0 from rfl,e];simp[quF]);have sx:=(Fm.err_iff _).1 ex;have ok0:=ho.2.1;simp only at ok0;generalize f0.ty=s at*;rw[hk] at e;subst e;have e1:((quF 4 s x).args.getD 0 noFm)=x:=rfl;have o1:=Zi8 (by omega) ok0;by_cases hk2:x.kind=5;case neg=>
  rw[if_pos (.inr (by rw[e1];exact hk2))];refine M.F Tryz.func161 ?_;(repeat' first|refine M.o1 @hp ?_|refine M.z1 6 ?_|refine M.cs ?_ ?_<;>intro h|refine M.gk ?_|fail);all_goals first
   |rfl
   |(exfalso;simp at h;exact hk2 h)
   |trace_state
 rw[if_neg (by rintro(h|h);exact h hk;exact h (by rw[e1];exact hk2))];obtain⟨y,e⟩:=Zkf sx.1 (by omega);have hte2:=Zhx sx.1 (by omega);have ey:=uz ex (x:=y) (by rw[e];simp[quF]);have sy:=(Fm.err_iff _).1 ey;generalize x.ty=u at*;rw[hk2] at e;subst e;have o2:=Zi8 (by omega) o1;have zs:=((Ty.err_iff s).1 hte).2;have zu:=((Ty.err_iff u).1 hte2).2;have h1:=Zrj s u (by omega) (by omega);have h2:=Zbf (xj s u) (by simp only[xj,Ty.size,Ty.sizes];omega);have e2:chF (quF 4 s (quF 5 u y))=xj s u:=rfl;have e3:chB (quF 4 s (quF 5 u y))=Zey (y.lft 2 1) appV:=rfl;simp only[e2,e3];by_cases ef:(xj s u).err=0;case neg=>
  rw[if_pos ef];refine M.F Tryz.func161 ?_;(repeat' first|refine M.o3 @hp @h1 @h2 ?_|refine M.z1 10 ?_|refine M.cs ?_ ?_<;>intro h|refine M.gk ?_|fail);all_goals first
   |rfl
   |(exfalso;simp at h;exact ef h)
   |trace_state
 rw[if_neg (by simp[ef])];rw[ef] at h2;have h3:=Zf7 o2 sy.1 (by omega) (by simp;omega) 2 1 (by omega) (by omega);have h4:=Zdf 1;have h4':=Zdf 0;have h5:=n_c 3 [vT 1,vT 0] (by simp[vT,Tm.full,Tm.fulls,Ty.size,Ty.sizes]);have hlf:=vf sy.1 (fr:=2) (by_:=1) (by omega);have h6:=Zk5 (y.lft 2 1) appV (by rw[hlf.2.2];have:=xg ey;omega) (by decide);have hb:=Yao (y.lft 2 1) appV;have h7:=Zhl 4 s (Zey (y.lft 2 1) appV).1 (by omega) (by omega);have h8:=Zhl 5 (xj s u) (.mk 4 s [] [(Zey (y.lft 2 1) appV).1]) (by simp only[xj,Ty.size,Ty.sizes];omega) (by simp only[Fm.full,Fm.fulls,List.map_nil,List.sum_nil];omega);refine M.F Tryz.func161 ?_;(repeat' first|refine M.w6 @hp @h1 @h2 @h3 @h4 @h4' ?_|refine M.c2 (h5) ?_|refine M.c2 (h6) ?_|refine M.c2 (h7) ?_|refine M.c2 (h8) ?_|fail);all_goals first
  |rfl
  |trace_state
end
end Go.Ab
