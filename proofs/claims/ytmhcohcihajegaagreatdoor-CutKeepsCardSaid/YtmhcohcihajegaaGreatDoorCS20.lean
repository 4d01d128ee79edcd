/- A part of this seat's proofs. No conditions. -/
import Derived.Test.YtmhcohcihajegaaGreatDoorCS16
namespace Go.Ab
open Go Go.Proofs
set_option maxRecDepth 100000
set_option maxHeartbeats 4000000
set_option linter.all false
section
variable {c:Ck} (hc:c.ok) {p q:Pf} {r0 r1:Rs}
include hc
theorem YN{k:Int}(hk:k=10\/k=14){f:Fm}{t:Tm}(hf:f.full<=300000)(ht:t.full<=300000)
 (hpa:PC E 196 [.agg c.view,.agg p.view,.agg (f.args.getD 0 AK).view,.agg t.view] (.AP [.s .int (yy r0 c (f.args.getD 0 AK) t).1,.i (yy r0 c (f.args.getD 0 AK) t).2]))
 (hua:Bb c.tys.length (yy r0 c (f.args.getD 0 AK) t).1):
 PC E 155 [.agg c.view,.agg (Pf.mk k 0 (.mk 0 []) [t] [f] [p]).view] (CX (Hj k f t r0 c)):=by
 have hl:=hc.len;have hsum:=hc.sum;have hul:=hua.len;have h1:=SD c.tys f kn kn;have h2:=Vo c.tys t kn kn;unfold Hj;generalize yy r0 c (f.args.getD 0 AK) t=pr at*;by_cases t0:y8 c.tys f=0;case neg=>
  rw[if_pos t0];refine M.F Tryz.func155 ?_;(repeat' first|refine M.o1 @h1 ?_|refine M.z1 5 ?_|refine M.cs ?_ ?_<;>intro h|refine M.gk ?_|fail);all_goals first
   |rfl
   |(exfalso;simp at h;exact t0 h)
 rw[if_neg mF];rw[t0] at h1;obtain⟨fe,fo⟩:=we t0;have s0:=(Fm.Aa _).1 fe;by_cases hkd:f.kind=kI k 14 7 5;case neg=>
  rw[if_pos hkd];rcases hk with rfl|rfl;all_goals
   refine M.F Tryz.func155 ?_;(repeat' first|refine M.o1 @h1 ?_|refine M.z1 10 ?_|refine M.cs ?_ ?_<;>intro h|refine M.gk ?_|fail);all_goals first
    |rfl
    |(exfalso;simp at h;exact hkd h)
    |trace_state
 rw[if_neg (by simp[hkd])];have hkk:4<=f.kind/\f.kind<=7:=nY
 obtain⟨x,e⟩:=GM s0.1 hkk;have hx:f.args.getD 0 AK=x:=kH
 have hte:=Ks s0.1 hkk;have hsame:=wz _ f.ty (yx c.tys t).1 (fB _) (by have:=((Ty.Aa _).1 hte).2;omega);rw[hx] at hpa;by_cases t1:(yx c.tys t).2=0;case neg=>
  rw[if_pos t1];clear hsame hte;generalize f.ty=s at*;rw[hkd] at e;subst e;rcases hk with rfl|rfl;all_goals
   simp only[kI] at*;refine M.F Tryz.func155 ?_;(repeat' first|refine M.o2 @h1 @h2 ?_|refine M.z1 13 ?_|refine M.cs ?_ ?_<;>intro h|refine M.gk ?_|fail);all_goals first
    |rfl
    |(exfalso;simp at h;exact t1 h)
    |trace_state
 rw[if_neg (by simp[t1])];rw[t1] at h2;obtain⟨_,te,ti,_⟩:=L4 t1;have hfr:=Qf t te ti kn;have hfl:=(JK ti).len;have hun:=KJ pr.1 (FH t) kn kn;by_cases hts:f.ty=(yx c.tys t).1;case neg=>
  rw[if_pos hts];rw[decide_eq_false hts] at hsame;clear hte;generalize f.ty=s at*;rw[hkd] at e;subst e;rcases hk with rfl|rfl;all_goals
   simp only[kI] at*;refine M.F Tryz.func155 ?_;refine M.w3 @h1 @h2 @hsame ?_;all_goals first
    |rfl
    |trace_state
 rw[if_neg (by simp[hts])];rw[decide_eq_true hts] at hsame;clear hte;generalize f.ty=s at*;rw[hkd] at e;subst e;rcases hk with rfl|rfl;all_goals
  simp only[kI] at*;refine M.F Tryz.func155 ?_;refine M.w6 @h1 @h2 @hsame @hpa @hfr @hun ?_;all_goals first
   |rfl
   |trace_state
theorem Yov{f:Fm}{t:Tm}(hf:f.full<=300000)(ht:t.full<=300000)
 (hpa:PC E 196 [.agg c.view,.agg p.view,.agg f.view,.agg zT.view] (.AP [.s .int (yy r0 c f zT).1,.i (yy r0 c f zT).2]))
 (hpb:((c.below [Ac]).Ah f).ok->PC E 196 [.agg ((c.below [Ac]).Ah f).view,.agg q.view,.agg (f.As 1 1).view,.agg (sT (vT 0)).view] (.AP [.s .int (yy r1 ((c.below [Ac]).Ah f) (f.As 1 1) (sT (vT 0))).1,.i (yy r1 ((c.below [Ac]).Ah f) (f.As 1 1) (sT (vT 0))).2]))
 (hua:Bb c.tys.length (yy r0 c f zT).1) (hub:((c.below [Ac]).Ah f).ok->Bb (c.tys.length+1) (yy r1 ((c.below [Ac]).Ah f) (f.As 1 1) (sT (vT 0))).1):
 PC E 157 [.agg c.view,.agg (Pf.mk 16 0 (.mk 0 []) [t] [f] [p,q]).view] (CX (G7 f t r0 r1 c)):=by
 have hl:=hc.len;have hn:=hc.nh;have hsum:=hc.sum;have hul:=hua.len;have h1:=RE (c.tys++[Ac]) f kn (hc.one vo) kC;have h2:=Wk c t 1 kn kn;have h3:=Dj 4 [] ko;have h4:=N2 c 1 1 kn kn;have h5:=DR;have h6:=Rq c hc [Ac] ko ko;have h7:=Sk (c.below [Ac]) f mT;have h9:=Fg 0;have h10:=Dj 5 [vT 0] nR;have h11:=NO f t kn kn;unfold G7;generalize hA:yy r0 c f zT=a at*;generalize hB:yy r1 ((c.below [Ac]).Ah f) (f.As 1 1) (sT (vT 0))=b at*;by_cases e0:va (c.tys++[Ac]) f=0;case neg=>
  rw[if_pos e0];refine M.F Tryz.func157 ?_;(repeat' first|refine M.o2 @h5 @h1 ?_|refine M.z1 5 ?_|refine M.cs ?_ ?_<;>intro h|refine M.gk ?_|fail);all_goals first
   |rfl
   |(exfalso;simp at h;exact e0 h)
   |trace_state
 rw[if_neg (by simp[e0])];rw[e0] at h1;obtain⟨f1,f2⟩:=uf (hc.one vo) e0;have s0:=(Fm.Aa _).1 f1;by_cases e1:E7 c t 1=0;case neg=>
  rw[if_pos e1];refine M.F Tryz.func157 ?_;(repeat' first|refine M.o3 @h5 @h1 @h2 ?_|refine M.z1 8 ?_|refine M.cs ?_ ?_<;>intro h|refine M.gk ?_|fail);all_goals first
   |rfl
   |(exfalso;simp at h;exact e1 h)
   |trace_state
 rw[if_neg (by simp[e1])];rw[e1] at h2;obtain⟨te,ti⟩:=Pb e1;by_cases e2:a.2=0;case neg=>
  rw[if_pos e2];refine M.F Tryz.func157 ?_;(repeat' first|refine M.o5 @h5 @h1 @h2 @h3 @hpa ?_|refine M.z1 11 ?_|refine M.cs ?_ ?_<;>intro h|refine M.gk ?_|fail);all_goals first
   |rfl
   |(exfalso;simp at h;exact e2 h)
   |trace_state
 rw[if_neg (by simp[e2])];rw[e2] at hpa;by_cases e3:c.room 1 1=0;case neg=>
  rw[if_pos e3];rw[Oz e3] at h4;refine M.F Tryz.func157 ?_;refine M.w6 @h5 @h1 @h2 @h3 @hpa @h4 ?_;all_goals first
   |rfl
   |trace_state
 rw[if_neg (by simp[e3])];rw[e3] at h4;have hr:=xw e3;have hb:((c.below [Ac]).Ah f).ok:=(hc.below (l:=[Ac]) hr.1 mc).Ah mq f1 f2;have h8:=Gx f2 s0.1 kn kC 1 1 kn kn;have h12:=hpb hb;have hub':=hub hb;by_cases e4:b.2=0;case neg=>
  rw[if_pos e4];refine M.F Tryz.func157 ?_;(repeat' first|refine M.o6 @h5 @h1 @h2 @h3 @hpa @h4 ?_|refine M.c2 (h6) ?_|refine M.c2 (h7) ?_|refine M.c2 (h8) ?_|refine M.c2 (h9) ?_|refine M.c2 (h10) ?_|refine M.c2 (h12) ?_|refine M.z1 17 ?_|refine M.cs ?_ ?_<;>intro h|refine M.gk ?_|fail);all_goals first
   |rfl
   |(exfalso;simp at h;exact e4 h)
   |trace_state
 rw[if_neg (by simp[e4])];rw[e4] at h12;have hfr:=Qf t te ti kn;have hfl:=(JK ti).len;have hun:=KJ (FH t) a.1 kn kn;have hlu:Bb c.tys.length (Fl (FH t) a.1):= .union (JK ti).2 hua.2;have hll:=hlu.len;have hbl:=hub'.len;have hou:=Sm b.1 1 kn kn (fun x hx=>by have:=hub'.2 x hx;omega);have hol:=QK b.1 1;have hun2:=KJ (Fl (FH t) a.1) (Eg b.1 1) kn kn;refine M.F Tryz.func157 ?_;(repeat' first|refine M.w6 @h5 @h1 @h2 @h3 @hpa @h4 ?_|refine M.c2 (h6) ?_|refine M.c2 (h7) ?_|refine M.c2 (h8) ?_|refine M.c2 (h9) ?_|refine M.c2 (h10) ?_|refine M.c2 (h12) ?_|refine M.c2 (h11) ?_|refine M.c2 (hfr) ?_|refine M.c2 (hun) ?_|refine M.c2 (hou) ?_|refine M.c2 (hun2) ?_|fail);all_goals first
  |rfl
  |trace_state
end
section
variable {c:Ck} (hc:c.ok) {p q:Pf} {r0 r1:Rs}
include hc
theorem Yfm{f:Fm}{f0:Fm}{u0:List Int}{e0:Int}(hr0:r0 c=(f0,u0,e0))(hf:f.full<=300000)
 (hp:PC E 41 [.agg c.view,.agg p.view] (En f0 u0 e0)) (o0:GI c (f0,u0,e0))
 (hpb:∀t:Tm,t.full<=300000->PC E 196 [.agg c.view,.agg q.view,.agg f.view,.agg t.view] (.AP [.s .int (yy r1 c f t).1,.i (yy r1 c f t).2])):
 PC E 160 [.agg c.view,.agg (Pf.mk 19 0 (.mk 0 []) [] [f] [p,q]).view] (CX (GZ f r0 r1 c)):=by
 have hl:=hc.len;have hsum:=hc.sum;have h1:=RE (c.tys++[Ac]) f kn (hc.one vo) kC;have h5:=DR;unfold GZ;rw[hr0];by_cases t0:va (c.tys++[Ac]) f=0;case neg=>
  rw[if_pos t0];refine M.F Tryz.func160 ?_;(repeat' first|refine M.o2 @h5 @h1 ?_|refine M.z1 5 ?_|refine M.cs ?_ ?_<;>intro h|refine M.gk ?_|fail);all_goals first
   |rfl
   |(exfalso;simp at h;exact t0 h)
   |trace_state
 rw[if_neg mF];rw[t0] at h1;by_cases he:e0=0;case neg=>
  rw[if_pos he];refine M.F Tryz.func160 ?_;(repeat' first|refine M.o3 @h5 @h1 @hp ?_|refine M.z1 8 ?_|refine M.cs ?_ ?_<;>intro h|refine M.gk ?_|fail);all_goals first
   |rfl
   |(exfalso;simp at h;exact he h)
   |trace_state
 subst he;rw[if_neg ko];by_cases hk:f0.kind=1;case neg=>
  rw[if_pos hk];refine M.F Tryz.func160 ?_;(repeat' first|refine M.o3 @h5 @h1 @hp ?_|refine M.z1 10 ?_|refine M.cs ?_ ?_<;>intro h|refine M.gk ?_|fail);all_goals first
   |rfl
   |(exfalso;simp at h;exact hk h)
   |trace_state
 rw[if_neg (by simp[hk])];have ho:=o0.1 rfl;obtain⟨x,y,e⟩:=QL ((Fm.Aa _).1 ho.1).1 hk;simp only at e;subst e;have ex:=Mq ho.1 (t:=x) me;have ey:=Mq ho.1 (t:=y) me;have h2:=hpb x (by have:=ye ex;omega);have h3:=NO f y kn (by have:=ye ey;omega);have e1:((AV x y).terms.getD 0 AB)=x:=rfl;have e2:((AV x y).terms.getD 1 AB)=y:=rfl;simp only[e1,e2];generalize yy r1 c f x=a at*;by_cases ea:a.2=0;case neg=>
  rw[if_pos ea];refine M.F Tryz.func160 ?_;(repeat' first|refine M.o4 @h5 @h1 @hp @h2 ?_|refine M.z1 13 ?_|refine M.cs ?_ ?_<;>intro h|refine M.gk ?_|fail);all_goals first
   |rfl
   |(exfalso;simp at h;exact ea h)
   |trace_state
 rw[if_neg (by simp[ea])];rw[ea] at h2;refine M.F Tryz.func160 ?_;refine M.w5 @h5 @h1 @hp @h2 @h3 ?_;all_goals first
  |rfl
  |trace_state
theorem Ybm{f0:Fm}{u0:List Int}{e0:Int}(hr0:r0 c=(f0,u0,e0))
 (hp:PC E 41 [.agg c.view,.agg p.view] (En f0 u0 e0)) (o0:GI c (f0,u0,e0)):
 PC E 161 [.agg c.view,.agg (Pf.mk 20 0 (.mk 0 []) [] [] [p]).view] (CX (Hi r0 c)):=by
 have hl:=hc.len;unfold Hi;rw[hr0];by_cases he:e0=0;case neg=>
  rw[if_pos he];refine M.F Tryz.func161 ?_;(repeat' first|refine M.o1 @hp ?_|refine M.z1 4 ?_|refine M.cs ?_ ?_<;>intro h|refine M.gk ?_|fail);all_goals first
   |rfl
   |(exfalso;simp at h;exact he h)
   |trace_state
 subst he;rw[if_neg ko];have ho:=o0.1 rfl;have s0:=(Fm.Aa _).1 ho.1;by_cases hk:f0.kind=4;case neg=>
  rw[if_pos (.inl hk)];refine M.F Tryz.func161 ?_;(repeat' first|refine M.o1 @hp ?_|refine M.gs ?_ ?_<;>intro h|refine M.z1 6 ?_|refine M.cs ?_ ?_<;>intro h|refine M.gk ?_|fail);all_goals first
   |rfl
   |(exfalso;simp at h;exact hk h)
   |(exfalso;rename_i h1;simp at h1;exact hk h1)
   |trace_state
 obtain⟨x,e⟩:=GM s0.1 lq;have hte:=Ks s0.1 lq;simp only at e hte;have ex:=xh ho.1 (x:=x) oQ;have sx:=(Fm.Aa _).1 ex;have ok0:=ho.2.1;simp only at ok0;generalize f0.ty=s at*;rw[hk] at e;subst e;have e1:((AL 4 s x).args.getD 0 AK)=x:=rfl;have o1:=Gk kn ok0;by_cases hk2:x.kind=5;case neg=>
  rw[if_pos (.inr (by rw[e1];exact hk2))];refine M.F Tryz.func161 ?_;(repeat' first|refine M.o1 @hp ?_|refine M.z1 6 ?_|refine M.cs ?_ ?_<;>intro h|refine M.gk ?_|fail);all_goals first
   |rfl
   |(exfalso;simp at h;exact hk2 h)
   |trace_state
 rw[if_neg (by rintro(h|h);exact h hk;exact h (by rw[e1];exact hk2))];obtain⟨y,e⟩:=GM sx.1 kn;have hte2:=Ks sx.1 kn;have ey:=xh ex (x:=y) mB;have sy:=(Fm.Aa _).1 ey;generalize x.ty=u at*;rw[hk2] at e;subst e;have o2:=Gk kn o1;have zs:=((Ty.Aa s).1 hte).2;have zu:=((Ty.Aa u).1 hte2).2;have h1:=L5 s u kn kn;have h2:=Nf (xx s u) mM;have e2:LG (AL 4 s (AL 5 u y))=xx s u:=rfl;have e3:Kx (AL 4 s (AL 5 u y))=Cr (y.As 2 1) Ca:=rfl;simp only[e2,e3];by_cases ef:(xx s u).err=0;case neg=>
  rw[if_pos ef];refine M.F Tryz.func161 ?_;(repeat' first|refine M.o3 @hp @h1 @h2 ?_|refine M.z1 10 ?_|refine M.cs ?_ ?_<;>intro h|refine M.gk ?_|fail);all_goals first
   |rfl
   |(exfalso;simp at h;exact ef h)
   |trace_state
 rw[if_neg (by simp[ef])];rw[ef] at h2;have h3:=Gx o2 sy.1 kn kC 2 1 kn kn;have h4:=Fg 1;have h4':=Fg 0;have h5:=Dj 3 [vT 1,vT 0] nR;have hlf:=yt sy.1 (fr:=2) (by_:=1) kn;have h6:=NO (y.As 2 1) Ca (by rw[hlf.2.2];have:=yh ey;omega) kq;have hb:=eZ (y.As 2 1) Ca;have h7:=HS 4 s (Cr (y.As 2 1) Ca).1 kn kn;have h8:=HS 5 (xx s u) (.mk 4 s [] [(Cr (y.As 2 1) Ca).1]) mM (by simp only[Fm.full,Fm.Ay,fU,gu];omega);refine M.F Tryz.func161 ?_;(repeat' first|refine M.w6 @hp @h1 @h2 @h3 @h4 @h4' ?_|refine M.c2 (h5) ?_|refine M.c2 (h6) ?_|refine M.c2 (h7) ?_|refine M.c2 (h8) ?_|fail);all_goals first
  |rfl
  |trace_state
end
section
variable {c:Ck} (hc:c.ok) {p q:Pf} {r0 r1:Rs}
include hc
theorem Ymr{f:Fm}{t:Tm}(hf:f.full<=300000)(ht:t.full<=300000)
 (hpa:PC E 196 [.agg c.view,.agg p.view,.agg f.view,.agg Dw.view] (.AP [.s .int (yy r0 c f Dw).1,.i (yy r0 c f Dw).2]))
 (hpb:((c.below [Ac,Al]).Ah (f.As 1 1)).ok->PC E 196 [.agg ((c.below [Ac,Al]).Ah (f.As 1 1)).view,.agg q.view,.agg (f.As 1 2).view,.agg BJ.view] (.AP [.s .int (yy r1 ((c.below [Ac,Al]).Ah (f.As 1 1)) (f.As 1 2) BJ).1,.i (yy r1 ((c.below [Ac,Al]).Ah (f.As 1 1)) (f.As 1 2) BJ).2]))
 (hua:Bb c.tys.length (yy r0 c f Dw).1) (hub:((c.below [Ac,Al]).Ah (f.As 1 1)).ok->Bb (c.tys.length+2) (yy r1 ((c.below [Ac,Al]).Ah (f.As 1 1)) (f.As 1 2) BJ).1):
 PC E 158 [.agg c.view,.agg (Pf.mk 17 0 (.mk 0 []) [t] [f] [p,q]).view] (CX (G2 f t r0 r1 c)):=by
 have hl:=hc.len;have hn:=hc.nh;have hsum:=hc.sum;have hul:=hua.len;have h1:=RE (c.tys++[Al]) f kn (hc.one J0) kC;have h2:=Wk c t 2 kn kn;have h3:=Dj 7 [] ko;have h4:=N2 c 2 1 kn kn;have h5:=DR;have h6:=Rq c hc [Ac,Al] ko ko;have h7:=Sk (c.below [Ac,Al]) (f.As 1 1) mT;have h9:=Fg 0;have h9':=Fg 1;have h5':=Gu;have h10:=Dj 8 [vT 1,vT 0] nR;have h11:=NO f t kn kn;unfold G2;generalize hA:yy r0 c f Dw=a at*;generalize hB:yy r1 ((c.below [Ac,Al]).Ah (f.As 1 1)) (f.As 1 2) BJ=b at*;by_cases e0:va (c.tys++[Al]) f=0;case neg=>
  rw[if_pos e0];refine M.F Tryz.func158 ?_;(repeat' first|refine M.o2 @h5' @h1 ?_|refine M.z1 5 ?_|refine M.cs ?_ ?_<;>intro h|refine M.gk ?_|fail);all_goals first
   |rfl
   |(exfalso;simp at h;exact e0 h)
   |trace_state
 rw[if_neg (by simp[e0])];rw[e0] at h1;obtain⟨f1,f2⟩:=uf (hc.one J0) e0;have s0:=(Fm.Aa _).1 f1;by_cases e1:E7 c t 2=0;case neg=>
  rw[if_pos e1];refine M.F Tryz.func158 ?_;(repeat' first|refine M.o3 @h5' @h1 @h2 ?_|refine M.z1 8 ?_|refine M.cs ?_ ?_<;>intro h|refine M.gk ?_|fail);all_goals first
   |rfl
   |(exfalso;simp at h;exact e1 h)
   |trace_state
 rw[if_neg (by simp[e1])];rw[e1] at h2;obtain⟨te,ti⟩:=Uq e1;by_cases e2:a.2=0;case neg=>
  rw[if_pos e2];refine M.F Tryz.func158 ?_;(repeat' first|refine M.o5 @h5' @h1 @h2 @h3 @hpa ?_|refine M.z1 11 ?_|refine M.cs ?_ ?_<;>intro h|refine M.gk ?_|fail);all_goals first
   |rfl
   |(exfalso;simp at h;exact e2 h)
   |trace_state
 rw[if_neg (by simp[e2])];rw[e2] at hpa;by_cases e3:c.room 2 1=0;case neg=>
  rw[if_pos e3];rw[Oz e3] at h4;refine M.F Tryz.func158 ?_;refine M.w6 @h5' @h1 @h2 @h3 @hpa @h4 ?_;all_goals first
   |rfl
   |trace_state
 rw[if_neg (by simp[e3])];rw[e3] at h4;have hr:=xw e3;have hb:((c.below [Ac,Al]).Ah (f.As 1 1)).ok:=(hc.below (l:=[Ac,Al]) hr.1 mD).Ah mq (JW f1 kn) (by simpa[Ck.below] using wy (g:=c.tys) (h:=[Al]) [Ac] s0.1 f2);have h8:=Gx f2 s0.1 kn kC 1 1 kn kn;have h8':=Gx f2 s0.1 kn kC 1 2 kn kn;have h12:=hpb hb;have hub':=hub hb;by_cases e4:b.2=0;case neg=>
  rw[if_pos e4];refine M.F Tryz.func158 ?_;(repeat' first|refine M.o6 @h5 @h5' @h1 @h2 @h3 @hpa ?_|refine M.c2 (h4) ?_|refine M.c2 (h6) ?_|refine M.c2 (h7) ?_|refine M.c2 (h8) ?_|refine M.c2 (h8') ?_|refine M.c2 (h9) ?_|refine M.c2 (h9') ?_|refine M.c2 (h10) ?_|refine M.c2 (h12) ?_|refine M.z1 17 ?_|refine M.cs ?_ ?_<;>intro h|refine M.gk ?_|fail);all_goals first
   |rfl
   |(exfalso;simp at h;exact e4 h)
   |trace_state
 rw[if_neg (by simp[e4])];rw[e4] at h12;have hfr:=Qf t te ti kn;have hfl:=(JK ti).len;have hun:=KJ (FH t) a.1 kn kn;have hlu:Bb c.tys.length (Fl (FH t) a.1):= .union (JK ti).2 hua.2;have hll:=hlu.len;have hbl:=hub'.len;have hou:=Sm b.1 2 kn kn (fun x hx=>by have:=hub'.2 x hx;omega);have hol:=QK b.1 2;have hun2:=KJ (Fl (FH t) a.1) (Eg b.1 2) kn kn;refine M.F Tryz.func158 ?_;(repeat' first|refine M.w6 @h5 @h5' @h1 @h2 @h3 @hpa ?_|refine M.c2 (h4) ?_|refine M.c2 (h6) ?_|refine M.c2 (h7) ?_|refine M.c2 (h8) ?_|refine M.c2 (h8') ?_|refine M.c2 (h9) ?_|refine M.c2 (h9') ?_|refine M.c2 (h10) ?_|refine M.c2 (h12) ?_|refine M.c2 (h11) ?_|refine M.c2 (hfr) ?_|refine M.c2 (hun) ?_|refine M.c2 (hou) ?_|refine M.c2 (hun2) ?_|fail);all_goals first
  |rfl
  |trace_state
end
theorem V0(tys:List Ty)(hyps:List Fm)(f:Fm)(hl:hyps.length<=1000):PC E 53 [.agg [.s .ty tys,.s .fm hyps],.agg f.view] (.agg [.s .ty tys,.s .fm (hyps++[f])]):=by
 refine M.F Tryz.func53 ?_;refine M.w0 ?_;all_goals first
  |rfl
  |simp[zn,V.wk,V.Ar,za,Ty.view,Tm.view]
  |trace_state
theorem MT(tys:List Ty)(hyps:List Fm)(l:List Ty)(hh:∀f∈hyps,f.err=0/\f.A9 tys)(hg:tys.length<=20)(hl:l.length<=2)(hn:hyps.length<=20):
 PC E 56 [.agg [.s .ty tys,.s .fm hyps],.s .ty l] (.agg [.s .ty (tys++l),.s .fm (hyps.map fun f=>f.As 0 l.length)]):=by
 have h1:=Kt tys l kn;refine M.F Tryz.func56 ?_;refine M.w1 @h1 ?_;refine M.rt hyps.length
  (fun m=>([(1,.s .ty l),(4,.ptr 1 0),(5,.ptr 2 0),(14,.s .fm hyps),(15,.i hyps.length),(16,.i m)],⟨4,[(0,.var [.s .ty tys,.s .fm hyps]),(1,.var [.slice .nil (.t .ty []),.slice .nil (.t .fm [])]),(2,.var [.s .ty (tys++l),.slice (.own 3) (.t .fm ((hyps.take m).map fun f=>f.As 0 l.length))]),(3,.row)]⟩))
  (M.W JU) ?_ ?_
 .intro m hm _;have hf:=hh hyps[m] (fA hm);have hc:=Gx hf.2 ((Fm.Aa _).1 hf.1).1 (by have:=((Fm.Aa _).1 hf.1).2;omega) kn 0 l.length kn kn;refine M.w1 @hc ?_;exact⟨rfl,trivial,(M.W [some 0,some 1,some 2,some 5] (he:=(by(repeat'(first|exact trivial|exact Or.inr ⟨_,U,rfl⟩|refine And.intro ?_ ?_|refine⟨_,U,_,U,_,U,?_⟩|exact Ap.refl _|exact Ap.of_eq kO));done)))⟩
 .intro _;simp only[fH];refine M.w0 ?_;all_goals first
   |rfl
   |simp[zn,V.wk,V.Ar,za,Ty.view,Tm.view]
   |trace_state
theorem VW{g:List Ty}{t:Tm}(he:t.err=0)(hi:t.inf g=(Ac,0))(hg:g.length<=20):PC E 61 [.agg t.view] (.agg (t.re (zi 0 1) 0).view):=by
 have hf:=ye he;have hs:=(Tm.Aa t).1 he;have h1:=JY t t kn kn;have h2:=Gx (f:=AV t t) (g:=g) (CK.2 ⟨hi,hi⟩) (Lt hs.1 hs.1) (by have:=Mp t t;omega) kn 0 1 kn kn;rw[Ymy] at h2;rw[show(0:Int)+0=0 from rfl] at h2;generalize t.re (zi 0 1) 0=u at*;refine M.F Tryz.func61 ?_;refine M.w2 @h1 @h2 ?_;all_goals first
  |rfl
  |simp[zn,V.wk,V.Ar,za,Ty.view,Tm.view]
  |trace_state
theorem Yi5(k:Int)(f:Fm)(t:Tm)(p:Pf)(hf:f.full<500000000000)(ht:t.full<500000000000)(hp:p.full<500000000000):
 AC E 63 [.i k,.agg f.view,.agg t.view,.agg p.view] ⟨0,[]⟩ (.agg [.i k,.i 0,.i 0,.s .ty [],.s .tm [t],.arr 0 1 5,.s .pf [p]]) ⟨1,[(0,.var f.view)]⟩:=by
 have h1:=Qn k t p ht hp;have h2:=Jd _ f (fB _) kn;refine M.F Tryz.func63 ?_;(repeat' first|refine M.o1 @h1 ?_|refine M.z1 2 ?_|refine M.gk ?_|fail);refine K.sq (AW.A5 ?_);refine L.Ea rfl rfl rfl rfl rfl rfl ?_;refine L.c2 h2 rfl rfl rfl rfl ?_;refine L.Wr 0 rfl rfl rfl rfl rfl rfl rfl ?_;refine M.w0 ?_;refine K.rt [some 5] rfl rfl rfl rfl rfl ?_ rfl ?_
 .exact ⟨⟨_,rfl,_,rfl,_,rfl,BA.refl _⟩,trivial⟩
 .exact sQ
end Go.Ab
