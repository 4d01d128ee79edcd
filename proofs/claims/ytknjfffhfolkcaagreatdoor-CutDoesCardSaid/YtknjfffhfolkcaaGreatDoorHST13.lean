/- A part of this seat's proofs. No conditions. -/
import Derived.Test.YtknjfffhfolkcaaGreatDoorHST12
namespace Go.Ab
open Go Go.Proofs
set_option maxRecDepth 100000
set_option maxHeartbeats 4000000
set_option linter.all false
theorem Zsc{l:Tm}(he:l.err=0)(hn:l.near=false):(l.re (zx 0 1) 0).near=false:=by
 obtain⟨h1,h2⟩:=(Tm.Ad l).1 he;unfold Tm.near at hn ⊢;rw[List.all_eq_false] at hn ⊢;obtain⟨q,hq,h3⟩:=hn;have hd:=Ob l 0 q hq;have h4:¬q.1<=536870912:=by simpa using h3
 refine⟨(q.1+1,q.2),?_,by simp;omega⟩;rw[Ns _ _ _ h1];refine WL.2 ⟨q,hq,?_⟩;have e:zx 0 1 q.1 q.2=vT (q.1+1):=by unfold zx;rw[if_pos (by omega)];rfl
 rw[e];simp[vT,Tm.vars,Tm.BX]
theorem Ln{p x:Pf}(he:p.err=0)(hx:x∈p.args):x.err=0:=by
 obtain⟨g1,g2,g3⟩:=(Pf.Ad p).1 he;have h:=za Pf.size hx;have hz:=p.size_eq;exact(Pf.Ad x).2 ⟨(ze g1).2.2.2 x hx,(y6 g2).2.2 x hx,by omega⟩
theorem MA{t x:Tm}(he:t.err=0)(hx:x∈t.args):x.err=0:=by
 obtain⟨g1,g2⟩:=(Tm.Ad t).1 he;have h:=za Tm.size hx;have hz:=t.size_eq;exact(Tm.Ad x).2 ⟨zg g1 x hx,by omega⟩
theorem Mr{p:Pf}{t:Tm}(he:p.err=0)(ht:t∈p.terms):t.err=0:=by
 obtain⟨g1,g2,g3⟩:=(Pf.Ad p).1 he;exact(Tm.Ad t).2 ⟨(ze g1).2.1 t ht,(y6 g2).1 t ht⟩
theorem Zvw{l:Tm}(he:l.err=0):(l.re (zx 0 1) 0).err=0:=by
 obtain⟨h1,h2⟩:=(Tm.Ad l).1 he;exact(Tm.Ad _).2 ⟨vx 0 h1 (by omega),by rw[J3 0 1 l 0 h1];exact h2⟩
theorem Yjw{p:Pf}(he:p.err=0)(hc:z7 p=(4,3)):PC E 138 [.agg p.view] (.AD [.agg (zj p).1.view,.i (zj p).2]):=by
 have hf:=yj he;have hs:=((Pf.Ad p).1 he).1;obtain⟨h1,h2,h3⟩:=w6 hc (by decide) (by decide);obtain⟨l1,_,l3⟩:=z5 hs h1 (nd:=⟨0,0,1,false,false⟩) (by rfl);obtain⟨_,_,_,s6⟩:=ze hs;obtain⟨k,i,s,ts,fs,zs⟩:=p;simp only[Pf.Ai,Pf.Ah,Pf.Ak,Pf.Ae] at h1 h2 h3 l1 l3 s6;subst h1;obtain⟨z,rfl⟩:=Co l3;have hz:z.kind=3:=h3;have sz:=s6 z (by simp);obtain⟨m1,_,m3⟩:=z5 sz hz (nd:=⟨0,0,2,false,false⟩) (by rfl);obtain⟨k2,i2,s2,ts2,fs2,zs2⟩:=z;simp only[Pf.Ai,Pf.Ah,Pf.Ak,Pf.Ae] at hz m1 m3;subst hz;obtain⟨a,a2,rfl⟩:=D4 m3;rw[show zj _=(a,0) by unfold zj;rw[hc];rfl];simp only[Pf.Af,Pf.Ah,Pf.Ak,Pf.Ae,Wn,WI,Wt,WU] at hf;refine M.F Tryz.func138 ?_;(repeat' first|refine M.gw ?_|refine M.bl ?_|fail);all_goals first
  |rfl
  |(exfalso;simp at h;done)
  |(exfalso;simp at h;omega)
  |trace_state
theorem Yi7{p:Pf}(he:p.err=0)(hc:z7 p=(5,3)):PC E 138 [.agg p.view] (.AD [.agg (zj p).1.view,.i (zj p).2]):=by
 have hf:=yj he;have hs:=((Pf.Ad p).1 he).1;obtain⟨h1,h2,h3⟩:=w6 hc (by decide) (by decide);obtain⟨l1,_,l3⟩:=z5 hs h1 (nd:=⟨0,0,1,false,false⟩) (by rfl);obtain⟨_,_,_,s6⟩:=ze hs;obtain⟨k,i,s,ts,fs,zs⟩:=p;simp only[Pf.Ai,Pf.Ah,Pf.Ak,Pf.Ae] at h1 h2 h3 l1 l3 s6;subst h1;obtain⟨z,rfl⟩:=Co l3;have hz:z.kind=3:=h3;have sz:=s6 z (by simp);obtain⟨m1,_,m3⟩:=z5 sz hz (nd:=⟨0,0,2,false,false⟩) (by rfl);obtain⟨k2,i2,s2,ts2,fs2,zs2⟩:=z;simp only[Pf.Ai,Pf.Ah,Pf.Ak,Pf.Ae] at hz m1 m3;subst hz;obtain⟨a,a2,rfl⟩:=D4 m3;rw[show zj _=(a2,0) by unfold zj;rw[hc];rfl];simp only[Pf.Af,Pf.Ah,Pf.Ak,Pf.Ae,Wn,WI,Wt,WU] at hf;refine M.F Tryz.func138 ?_;(repeat' first|refine M.gw ?_|refine M.bl ?_|fail);all_goals first
  |rfl
  |(exfalso;simp at h;done)
  |(exfalso;simp at h;omega)
  |trace_state
theorem Oq{p:Pf}(he:p.err=0)(hc:z7 p=(7,6)):PC E 138 [.agg p.view] (.AD [.agg (zj p).1.view,.i (zj p).2]):=by
 have hf:=yj he;have hs:=((Pf.Ad p).1 he).1;obtain⟨h1,h2,h3⟩:=w6 hc (by decide) (by decide);obtain⟨l1,_,l3⟩:=z5 hs h1 (nd:=⟨0,0,2,false,false⟩) (by rfl);obtain⟨_,_,_,s6⟩:=ze hs;obtain⟨k,i,s,ts,fs,zs⟩:=p;simp only[Pf.Ai,Pf.Ah,Pf.Ak,Pf.Ae] at h1 h2 h3 l1 l3 s6;subst h1;obtain⟨z,b,rfl⟩:=D4 l3;have hz:z.kind=6:=h3;have sz:=s6 z (by simp);obtain⟨m1,_,m3⟩:=z5 sz hz (nd:=⟨0,1,1,false,false⟩) (by rfl);obtain⟨k2,i2,s2,ts2,fs2,zs2⟩:=z;simp only[Pf.Ai,Pf.Ah,Pf.Ak,Pf.Ae] at hz m1 m3;subst hz;obtain⟨a,rfl⟩:=Co m3;rw[show zj _=(DY a 0 b,wz a 0 b) by unfold zj;rw[hc];rfl];simp only[Pf.Af,Pf.Ah,Pf.Ak,Pf.Ae,Wn,WI,Wt,WU] at hf;have c1:=KD a 0 b (by rw[Pf.Af];omega) (by rw[Pf.Af];omega);generalize DY a 0 b=X at*;generalize wz a 0 b=e at*;refine M.F Tryz.func138 ?_;(repeat' first|refine M.gw ?_|refine M.c2 (c1) ?_|refine M.bl ?_|fail);all_goals first
  |rfl
  |(exfalso;simp at h;done)
  |(exfalso;simp at h;omega)
  |trace_state
theorem P4{p:Pf}(he:p.err=0)(hc:z7 p=(9,8)):PC E 138 [.agg p.view] (.AD [.agg (zj p).1.view,.i (zj p).2]):=by
 have hf:=yj he;have hs:=((Pf.Ad p).1 he).1;obtain⟨h1,h2,h3⟩:=w6 hc (by decide) (by decide);obtain⟨l1,_,l3⟩:=z5 hs h1 (nd:=⟨1,0,1,false,false⟩) (by rfl);obtain⟨_,_,_,s6⟩:=ze hs;obtain⟨k,i,s,ts,fs,zs⟩:=p;simp only[Pf.Ai,Pf.Ah,Pf.Ak,Pf.Ae] at h1 h2 h3 l1 l3 s6;subst h1;obtain⟨z,rfl⟩:=Co l3;have hz:z.kind=8:=h3;have sz:=s6 z (by simp);obtain⟨t,rfl⟩:=Co l1;obtain⟨m1,_,m3⟩:=z5 sz hz (nd:=⟨0,0,1,false,true⟩) (by rfl);obtain⟨k2,i2,s2,ts2,fs2,zs2⟩:=z;simp only[Pf.Ai,Pf.Ah,Pf.Ak,Pf.Ae] at hz m1 m3;subst hz;obtain⟨a,rfl⟩:=Co m3;rw[show zj _=(w9 a 0 t,yu a 0 t) by unfold zj;rw[hc];rfl];simp only[Pf.Af,Pf.Ah,Pf.Ak,Pf.Ae,Wn,WI,Wt,WU] at hf;have c1:=I5 a 0 t (by rw[Pf.Af];omega) (by omega);generalize w9 a 0 t=X at*;generalize yu a 0 t=e at*;refine M.F Tryz.func138 ?_;(repeat' first|refine M.gw ?_|refine M.c2 (c1) ?_|refine M.bl ?_|fail);all_goals first
  |rfl
  |(exfalso;simp at h;done)
  |(exfalso;simp at h;omega)
  |trace_state
theorem Yiw{p:Pf}(he:p.err=0)(hc:z7 p=(13,12)):PC E 138 [.agg p.view] (.AD [.agg (zj p).1.view,.i (zj p).2]):=by
 have hf:=yj he;have hs:=((Pf.Ad p).1 he).1;obtain⟨h1,h2,h3⟩:=w6 hc (by decide) (by decide);obtain⟨l1,_,l3⟩:=z5 hs h1 (nd:=⟨1,0,1,false,false⟩) (by rfl);obtain⟨_,_,_,s6⟩:=ze hs;obtain⟨k,i,s,ts,fs,zs⟩:=p;simp only[Pf.Ai,Pf.Ah,Pf.Ak,Pf.Ae] at h1 h2 h3 l1 l3 s6;subst h1;obtain⟨z,rfl⟩:=Co l3;have hz:z.kind=12:=h3;have sz:=s6 z (by simp);obtain⟨t,rfl⟩:=Co l1;obtain⟨m1,_,m3⟩:=z5 sz hz (nd:=⟨0,0,1,false,true⟩) (by rfl);obtain⟨k2,i2,s2,ts2,fs2,zs2⟩:=z;simp only[Pf.Ai,Pf.Ah,Pf.Ak,Pf.Ae] at hz m1 m3;subst hz;obtain⟨a,rfl⟩:=Co m3;rw[show zj _=(w9 a 0 t,yu a 0 t) by unfold zj;rw[hc];rfl];simp only[Pf.Af,Pf.Ah,Pf.Ak,Pf.Ae,Wn,WI,Wt,WU] at hf;have c1:=I5 a 0 t (by rw[Pf.Af];omega) (by omega);generalize w9 a 0 t=X at*;generalize yu a 0 t=e at*;refine M.F Tryz.func138 ?_;(repeat' first|refine M.gw ?_|refine M.c2 (c1) ?_|refine M.bl ?_|fail);all_goals first
  |rfl
  |(exfalso;simp at h;done)
  |(exfalso;simp at h;omega)
  |trace_state
theorem rEx{p:Pf}(he:p.err=0)(hc:z7 p=(11,10)):PC E 138 [.agg p.view] (.AD [.agg (zj p).1.view,.i (zj p).2]):=by
 have hf:=yj he;have hs:=((Pf.Ad p).1 he).1;obtain⟨h1,h2,h3⟩:=w6 hc (by decide) (by decide);obtain⟨l1,_,l3⟩:=z5 hs h1 (nd:=⟨0,0,2,false,false⟩) (by rfl);obtain⟨_,_,_,s6⟩:=ze hs;obtain⟨k,i,s,ts,fs,zs⟩:=p;simp only[Pf.Ai,Pf.Ah,Pf.Ak,Pf.Ae] at h1 h2 h3 l1 l3 s6;subst h1;obtain⟨z,b,rfl⟩:=D4 l3;have hz:z.kind=10:=h3;have sz:=s6 z (by simp);obtain⟨m1,_,m3⟩:=z5 sz hz (nd:=⟨1,1,1,false,false⟩) (by rfl);obtain⟨k2,i2,s2,ts2,fs2,zs2⟩:=z;simp only[Pf.Ai,Pf.Ah,Pf.Ak,Pf.Ae] at hz m1 m3;subst hz;obtain⟨a,rfl⟩:=Co m3;obtain⟨t,rfl⟩:=Co m1;rw[show zj _=wd b t a by unfold zj;rw[hc];rfl];simp only[Pf.Af,Pf.Ah,Pf.Ak,Pf.Ae,Wn,WI,Wt,WU] at hf;have c1:=I5 b 0 t (by rw[Pf.Af];omega) (by omega);have c2:=KD (w9 b 0 t) 0 a (by have:=x6 b 0 t;omega) (by rw[Pf.Af];omega);unfold wd;by_cases e:yu b 0 t=0
 .rw[if_neg (by simp[e])];rw[e] at c1;generalize DY (w9 b 0 t) 0 a=Y at*;generalize wz (w9 b 0 t) 0 a=g at*;generalize w9 b 0 t=X at*;refine M.F Tryz.func138 ?_;(repeat' first|refine M.gw ?_|refine M.c2 (c1) ?_|refine M.c2 (c2) ?_|refine M.bl ?_|fail);all_goals first
   |rfl
   |(exfalso;simp at h;done)
   |trace_state
 .rw[if_pos e];clear c2;generalize w9 b 0 t=X at*;generalize yu b 0 t=g at*;refine M.F Tryz.func138 ?_;(repeat' first|refine M.gw ?_|refine M.c2 (c1) ?_|refine M.bl ?_|refine M.cs ?_ ?_<;>intro h|fail);all_goals first
   |rfl
   |(exfalso;simp at h;exact e h)
   |trace_state
theorem Qe{p:Pf}(he:p.err=0)(hc:z7 p=(15,14)):PC E 138 [.agg p.view] (.AD [.agg (zj p).1.view,.i (zj p).2]):=by
 have hf:=yj he;have hs:=((Pf.Ad p).1 he).1;obtain⟨h1,h2,h3⟩:=w6 hc (by decide) (by decide);obtain⟨l1,_,l3⟩:=z5 hs h1 (nd:=⟨0,0,2,false,false⟩) (by rfl);obtain⟨_,_,_,s6⟩:=ze hs;obtain⟨k,i,s,ts,fs,zs⟩:=p;simp only[Pf.Ai,Pf.Ah,Pf.Ak,Pf.Ae] at h1 h2 h3 l1 l3 s6;subst h1;obtain⟨z,b,rfl⟩:=D4 l3;have hz:z.kind=14:=h3;have sz:=s6 z (by simp);obtain⟨m1,_,m3⟩:=z5 sz hz (nd:=⟨1,1,1,false,false⟩) (by rfl);obtain⟨k2,i2,s2,ts2,fs2,zs2⟩:=z;simp only[Pf.Ai,Pf.Ah,Pf.Ak,Pf.Ae] at hz m1 m3;subst hz;obtain⟨a,rfl⟩:=Co m3;obtain⟨t,rfl⟩:=Co m1;rw[show zj _=wd b t a by unfold zj;rw[hc];rfl];simp only[Pf.Af,Pf.Ah,Pf.Ak,Pf.Ae,Wn,WI,Wt,WU] at hf;have c1:=I5 b 0 t (by rw[Pf.Af];omega) (by omega);have c2:=KD (w9 b 0 t) 0 a (by have:=x6 b 0 t;omega) (by rw[Pf.Af];omega);unfold wd;by_cases e:yu b 0 t=0
 .rw[if_neg (by simp[e])];rw[e] at c1;generalize DY (w9 b 0 t) 0 a=Y at*;generalize wz (w9 b 0 t) 0 a=g at*;generalize w9 b 0 t=X at*;refine M.F Tryz.func138 ?_;(repeat' first|refine M.gw ?_|refine M.c2 (c1) ?_|refine M.c2 (c2) ?_|refine M.bl ?_|fail);all_goals first
   |rfl
   |(exfalso;simp at h;done)
   |trace_state
 .rw[if_pos e];clear c2;generalize w9 b 0 t=X at*;generalize yu b 0 t=g at*;refine M.F Tryz.func138 ?_;(repeat' first|refine M.gw ?_|refine M.c2 (c1) ?_|refine M.bl ?_|refine M.cs ?_ ?_<;>intro h|fail);all_goals first
   |rfl
   |(exfalso;simp at h;exact e h)
   |trace_state
theorem Yjf{p:Pf}(he:p.err=0)(hc:z7 p=(16,4)):PC E 138 [.agg p.view] (.AD [.agg (zj p).1.view,.i (zj p).2]):=by
 have hf:=yj he;have hs:=((Pf.Ad p).1 he).1;obtain⟨h1,h3⟩:=HJ hc (by decide);obtain⟨l1,l2,l3⟩:=z5 hs h1 (nd:=⟨1,1,2,false,false⟩) (by rfl);obtain⟨nd,n1,_,_,_,_,n6,_,n8,_⟩:=xr hs;rw[h1] at n1;have en:nd=⟨1,1,2,false,false⟩:=by unfold BD at n1;simp at n1;exact n1.symm
 subst en;have i0:=n6 rfl;have s0:=n8 rfl;have pa:=fun x hx=>Ln (x:=x) he hx;have pt:=fun t ht=>Mr (t:=t) he ht;obtain⟨k,i,s,ts,fs,zs⟩:=p;simp only[Pf.Ai,Pf.Ah,Pf.Ak,Pf.Ae,Pf.AJ,Pf.AQ] at h1 h3 l1 l2 l3 pa pt i0 s0;subst h1 i0 s0;obtain⟨a,b,rfl⟩:=D4 l3;obtain⟨x,rfl⟩:=Co l1;obtain⟨f,rfl⟩:=Co l2;have hx:x.kind=4:=h3;have xe:=pt x (by simp);have sx:=((Tm.Ad x).1 xe).1;have m3:=HL sx hx (n:=0) (by rfl);have xa:=fun y hy=>MA (x:=y) xe hy;obtain⟨k2,i2,s2,ts2⟩:=x;simp only[Tm.Ai,Tm.Ae] at hx m3 xa;subst hx;rw[show zj _=(a,0) by unfold zj;rw[hc];rfl];refine M.F Tryz.func138 ?_;(repeat' first|refine M.gw ?_|refine M.bl ?_|fail);all_goals first
  |rfl
  |(exfalso;simp at h;done)
  |(exfalso;simp at h;omega)
  |trace_state
theorem Pr{p:Pf}(he:p.err=0)(hc:z7 p=(17,7)):PC E 138 [.agg p.view] (.AD [.agg (zj p).1.view,.i (zj p).2]):=by
 have hf:=yj he;have hs:=((Pf.Ad p).1 he).1;obtain⟨h1,h3⟩:=HJ hc (by decide);obtain⟨l1,l2,l3⟩:=z5 hs h1 (nd:=⟨1,1,2,false,false⟩) (by rfl);obtain⟨nd,n1,_,_,_,_,n6,_,n8,_⟩:=xr hs;rw[h1] at n1;have en:nd=⟨1,1,2,false,false⟩:=by unfold BD at n1;simp at n1;exact n1.symm
 subst en;have i0:=n6 rfl;have s0:=n8 rfl;have pa:=fun x hx=>Ln (x:=x) he hx;have pt:=fun t ht=>Mr (t:=t) he ht;obtain⟨k,i,s,ts,fs,zs⟩:=p;simp only[Pf.Ai,Pf.Ah,Pf.Ak,Pf.Ae,Pf.AJ,Pf.AQ] at h1 h3 l1 l2 l3 pa pt i0 s0;subst h1 i0 s0;obtain⟨a,b,rfl⟩:=D4 l3;obtain⟨x,rfl⟩:=Co l1;obtain⟨f,rfl⟩:=Co l2;have hx:x.kind=7:=h3;have xe:=pt x (by simp);have sx:=((Tm.Ad x).1 xe).1;have m3:=HL sx hx (n:=0) (by rfl);have xa:=fun y hy=>MA (x:=y) xe hy;obtain⟨k2,i2,s2,ts2⟩:=x;simp only[Tm.Ai,Tm.Ae] at hx m3 xa;subst hx;rw[show zj _=(a,0) by unfold zj;rw[hc];rfl];refine M.F Tryz.func138 ?_;(repeat' first|refine M.gw ?_|refine M.bl ?_|fail);all_goals first
  |rfl
  |(exfalso;simp at h;done)
  |(exfalso;simp at h;omega)
  |trace_state
theorem Yjh{p:Pf}(he:p.err=0)(hc:z7 p=(16,5)):PC E 138 [.agg p.view] (.AD [.agg (zj p).1.view,.i (zj p).2]):=by
 have hf:=yj he;have hs:=((Pf.Ad p).1 he).1;obtain⟨h1,h3⟩:=HJ hc (by decide);obtain⟨l1,l2,l3⟩:=z5 hs h1 (nd:=⟨1,1,2,false,false⟩) (by rfl);obtain⟨nd,n1,_,_,_,_,n6,_,n8,_⟩:=xr hs;rw[h1] at n1;have en:nd=⟨1,1,2,false,false⟩:=by unfold BD at n1;simp at n1;exact n1.symm
 subst en;have i0:=n6 rfl;have s0:=n8 rfl;have pa:=fun x hx=>Ln (x:=x) he hx;have pt:=fun t ht=>Mr (t:=t) he ht;obtain⟨k,i,s,ts,fs,zs⟩:=p;simp only[Pf.Ai,Pf.Ah,Pf.Ak,Pf.Ae,Pf.AJ,Pf.AQ] at h1 h3 l1 l2 l3 pa pt i0 s0;subst h1 i0 s0;obtain⟨a,b,rfl⟩:=D4 l3;obtain⟨x,rfl⟩:=Co l1;obtain⟨f,rfl⟩:=Co l2;have hx:x.kind=5:=h3;have xe:=pt x (by simp);have sx:=((Tm.Ad x).1 xe).1;have m3:=HL sx hx (n:=1) (by rfl);have xa:=fun y hy=>MA (x:=y) xe hy;obtain⟨k2,i2,s2,ts2⟩:=x;simp only[Tm.Ai,Tm.Ae] at hx m3 xa;subst hx;obtain⟨t,rfl⟩:=Co m3;rw[show zj _=wd b t (vq (Pf.mk 16 0 (.mk 0 []) [Tm.mk 5 i2 s2 [t]] [f] [a,b]) t) by unfold zj;rw[hc];rfl];have e1:=Pf.Af (Pf.mk 16 0 (.mk 0 []) [Tm.mk 5 i2 s2 [t]] [f] [a,b]);have e2:=Tm.Af (Tm.mk 5 i2 s2 [t]);simp only[Tm.Ae,Pf.Ah,Pf.Ak,Pf.Ae,Wn,WI,Wt,WU] at e1 e2;have c1:=I5 b 0 t (by omega) (by omega);have c2:=IG 16 f t a b (by omega) (by omega) (by omega) (by omega);have hA:(Pf.mk 16 0 (.mk 0 []) [t] [f] [a,b]).full<3000000:=by
  rw[Pf.Af];simp only[Pf.Ah,Pf.Ak,Pf.Ae,Wn,WI,Wt,WU];have:(Pf.mk 16 0 (.mk 0 []) [t] [f] [a,b]).ty.size<=10:=by show Ty.size (.mk 0 [])<=10;decide
  omega
 have c3:=KD (w9 b 0 t) 0 (Pf.mk 16 0 (.mk 0 []) [t] [f] [a,b]) (by have:=x6 b 0 t;omega) (by omega);rw[show vq (Pf.mk 16 0 (.mk 0 []) [Tm.mk 5 i2 s2 [t]] [f] [a,b]) t=Pf.mk 16 0 (.mk 0 []) [t] [f] [a,b] from rfl];unfold wd;by_cases e:yu b 0 t=0
 .rw[if_neg (by simp[e])];rw[e] at c1;generalize DY (w9 b 0 t) 0 (Pf.mk 16 0 (.mk 0 []) [t] [f] [a,b])=Y at*;generalize wz (w9 b 0 t) 0 (Pf.mk 16 0 (.mk 0 []) [t] [f] [a,b])=g at*;generalize w9 b 0 t=X at*;refine M.F Tryz.func138 ?_;(repeat' first|refine M.gw ?_|refine M.c2 (c1) ?_|refine M.c2 (c2) ?_|refine M.c2 (c3) ?_|refine M.bl ?_|fail);all_goals first
   |rfl
   |(exfalso;simp at h;done)
   |trace_state
 .rw[if_pos e];clear c2 c3;generalize w9 b 0 t=X at*;generalize yu b 0 t=g at*;refine M.F Tryz.func138 ?_;(repeat' first|refine M.gw ?_|refine M.c2 (c1) ?_|refine M.bl ?_|refine M.cs ?_ ?_<;>intro h|fail);all_goals first
   |rfl
   |(exfalso;simp at h;exact e h)
   |trace_state
theorem Yj2{p:Pf}(he:p.err=0)(hix:p.ix 549755813888)(hc:z7 p=(17,8)):PC E 138 [.agg p.view] (.AD [.agg (zj p).1.view,.i (zj p).2]):=by
 have hf:=yj he;have hs:=((Pf.Ad p).1 he).1;obtain⟨h1,h3⟩:=HJ hc (by decide);obtain⟨l1,l2,l3⟩:=z5 hs h1 (nd:=⟨1,1,2,false,false⟩) (by rfl);obtain⟨nd,n1,_,_,_,_,n6,_,n8,_⟩:=xr hs;rw[h1] at n1;have en:nd=⟨1,1,2,false,false⟩:=by unfold BD at n1;simp at n1;exact n1.symm
 subst en;have i0:=n6 rfl;have s0:=n8 rfl;have pa:=fun x hx=>Ln (x:=x) he hx;have pt:=fun t ht=>Mr (t:=t) he ht;obtain⟨k,i,s,ts,fs,zs⟩:=p;simp only[Pf.Ai,Pf.Ah,Pf.Ak,Pf.Ae,Pf.AJ,Pf.AQ] at h1 h3 l1 l2 l3 pa pt i0 s0;subst h1 i0 s0;obtain⟨a,b,rfl⟩:=D4 l3;obtain⟨x,rfl⟩:=Co l1;obtain⟨f,rfl⟩:=Co l2;have hx:x.kind=8:=h3;have xe:=pt x (by simp);have sx:=((Tm.Ad x).1 xe).1;have m3:=HL sx hx (n:=2) (by rfl);have xa:=fun y hy=>MA (x:=y) xe hy;obtain⟨k2,i2,s2,ts2⟩:=x;simp only[Tm.Ai,Tm.Ae] at hx m3 xa;subst hx;obtain⟨t,l,rfl⟩:=D4 m3;rw[show zj _=Gr (Pf.mk 17 0 (.mk 0 []) [Tm.mk 8 i2 s2 [t,l]] [f] [a,b]) t l by unfold zj;rw[hc];rfl];have e1:=Pf.Af (Pf.mk 17 0 (.mk 0 []) [Tm.mk 8 i2 s2 [t,l]] [f] [a,b]);have e2:=Tm.Af (Tm.mk 8 i2 s2 [t,l]);simp only[Tm.Ae,Pf.Ah,Pf.Ak,Pf.Ae,Wn,WI,Wt,WU] at e1 e2;have le:=xa l (by simp);have te:=xa t (by simp);have be:=pa b (by simp);have ls:=((Tm.Ad l).1 le).1;have hl:∀q∈l.vars 0,0<=q.1/\q.1<549755813888:=Jt (t:=Tm.mk 8 i2 s2 [t,l]) (((Pf.AY _ _).1 hix).1 _ (by simp)) 1;have l1e:=Zvw le;have l1f:=z6 l1e;have hA:(Pf.mk 17 0 (.mk 0 []) [l] [f] [a,b]).full<3000000:=by
  rw[Pf.Af];simp only[Pf.Ah,Pf.Ak,Pf.Ae,Wn,WI,Wt,WU];have:(Pf.mk 17 0 (.mk 0 []) [l] [f] [a,b]).ty.size<=10:=by show Ty.size (.mk 0 [])<=10;decide
  omega
 have c2:=I5 b 0 (l.re (zx 0 1) 0) (by omega) (by omega);unfold Gr;rw[show(Pf.mk 17 0 (.mk 0 []) [Tm.mk 8 i2 s2 [t,l]] [f] [a,b]).arg 1=b from rfl,show vq (Pf.mk 17 0 (.mk 0 []) [Tm.mk 8 i2 s2 [t,l]] [f] [a,b]) l=Pf.mk 17 0 (.mk 0 []) [l] [f] [a,b] from rfl];by_cases hn:l.near=true;case neg=>
  rw[X4] at hn;have e0:yx l 0 1=1:=by unfold yx;rw[if_neg (by simp[le]),if_pos (.inr (.inr hn))]
  have e3:yu b 0 (l.re (zx 0 1) 0)=1:=L2 be (by omega) l1e (.inr (Zsc le hn));rw[if_pos (by rw[e0];decide),e0];rw[e3,J7 (by rw[e3];decide)] at c2;have c1:=J2 1 (by omega) _ l 0 (Wj _) (by omega) (by omega) (by omega) ls hl;generalize l.re (zx 0 1) 0=ll at*;refine M.F Tryz.func138 ?_;(repeat' first|refine M.gw ?_|refine M.c2 (c1) ?_|refine M.c2 (c2) ?_|refine M.bl ?_|fail);all_goals first
   |rfl
   |(exfalso;simp at h;done)
   |trace_state
 have e0:yx l 0 1=0:=by unfold yx;rw[if_neg (by simp[le]),if_neg (by rw[hn];simp)]
 have e1:D7 l=l.re (zx 0 1) 0:=by unfold D7;rw[if_pos e0]
 have c1:=J2 1 (by omega) _ l 0 (Wj _) (by omega) (by omega) (by omega) ls hl;rw[if_neg (by simp[e0]),e1];have fx:=x6 b 0 (l.re (zx 0 1) 0);have c3:=I5 (w9 b 0 (l.re (zx 0 1) 0)) 0 t (by omega) (by omega);have fy:=x6 (w9 b 0 (l.re (zx 0 1) 0)) 0 t;have c4:=IG 17 f l a b (by omega) (by omega) (by omega) (by omega);have c5:=KD (w9 (w9 b 0 (l.re (zx 0 1) 0)) 0 t) 0 (Pf.mk 17 0 (.mk 0 []) [l] [f] [a,b]) (by omega) (by omega);generalize l.re (zx 0 1) 0=ll at*;by_cases e2:yu b 0 ll=0;case neg=>
  rw[if_pos e2];rw[J7 e2] at c2;clear c3 c4 c5;generalize yu b 0 ll=g at*;refine M.F Tryz.func138 ?_;(repeat' first|refine M.gw ?_|refine M.c2 (c1) ?_|refine M.c2 (c2) ?_|refine M.bl ?_|refine M.cs ?_ ?_<;>intro h|fail);all_goals first
   |rfl
   |(exfalso;simp at h;exact e2 h)
   |trace_state
 rw[if_neg (by simp[e2])];rw[e2] at c2;generalize w9 b 0 ll=X at*;unfold wd;by_cases e3:yu X 0 t=0;case neg=>
  rw[if_pos e3];rw[J7 e3] at c3;clear c4 c5;generalize yu X 0 t=g at*;refine M.F Tryz.func138 ?_;(repeat' first|refine M.gw ?_|refine M.c2 (c1) ?_|refine M.c2 (c2) ?_|refine M.c2 (c3) ?_|refine M.bl ?_|refine M.cs ?_ ?_<;>intro h|fail);all_goals first
   |rfl
   |(exfalso;simp at h;exact e3 h)
   |trace_state
 rw[if_neg (by simp[e3])];rw[e3] at c3;generalize DY (w9 X 0 t) 0 (Pf.mk 17 0 (.mk 0 []) [l] [f] [a,b])=Z at*;generalize wz (w9 X 0 t) 0 (Pf.mk 17 0 (.mk 0 []) [l] [f] [a,b])=g at*;generalize w9 X 0 t=Y at*;refine M.F Tryz.func138 ?_;(repeat' first|refine M.gw ?_|refine M.c2 (c1) ?_|refine M.c2 (c2) ?_|refine M.c2 (c3) ?_|refine M.c2 (c4) ?_|refine M.c2 (c5) ?_|refine M.bl ?_|fail);all_goals first
  |rfl
  |(exfalso;simp at h;done)
  |trace_state
theorem Zww(p:Pf)(he:p.err=0)(hix:p.ix 549755813888)(hr:xl p=true):PC E 138 [.agg p.view] (.AD [.agg (zj p).1.view,.i (zj p).2]):=by
 have h:=of_decide_eq_true hr;simp only[DV,WE,WS,or_false] at h;rcases h with h|h|h|h|h|h|h|h|h|h|h
 .exact Yjw he h
 .exact Yi7 he h
 .exact Oq he h
 .exact P4 he h
 .exact Yiw he h
 .exact rEx he h
 .exact Qe he h
 .exact Yjf he h
 .exact Yjh he h
 .exact Pr he h
 .exact Yj2 he hix h
theorem Ygm{k i k2 i2:Int}{s s2:Ty}{ts ts2:List Tm}{fs fs2:List Fm}{zs zs2:List Pf}(hk:¬(k=16\/k=17)):xl (.mk k i s ts fs (.mk k2 i2 s2 ts2 fs2 zs2::zs))=decide ((k,k2)∈DV):=by
 unfold xl;rw[Mj (p:= .mk k i s ts fs (.mk k2 i2 s2 ts2 fs2 zs2::zs)) hk (by simp)]
 rfl
theorem Yh9{k i k2 i2:Int}{s s2:Ty}{ts ts2:List Tm}{fs:List Fm}{zs:List Pf}(hk:k=16\/k=17):xl (.mk k i s (.mk k2 i2 s2 ts2::ts) fs zs)=decide ((k,k2)∈DV):=by
 unfold xl;rw[QH (p:= .mk k i s (.mk k2 i2 s2 ts2::ts) fs zs) hk]
 rfl
theorem S1(p:Pf)(hs:p.shape=true):PC E 54 [.agg p.view] (.bool (xl p)):=by
 obtain⟨nd,n1,n2,n3,n4,_⟩:=xr hs;obtain⟨k,i,s,ts,fs,zs⟩:=p;simp only[Pf.Ai,Pf.Ah,Pf.Ak,Pf.Ae] at n1 n2 n3 n4;rcases Mz n1 with h|h|h|h|h|h|h|h|h|h|h|h|h|h|h|h|h|h|h|h;all_goals
  subst h;unfold BD at n1;simp at n1;subst n1;simp only at n2 n3 n4
 all_goals first
  |(obtain⟨z,rfl⟩:=Co n4
    obtain⟨k2,i2,s2,ts2,fs2,zs2⟩:=z)
  |(obtain⟨z,z',rfl⟩:=D4 n4
    obtain⟨k2,i2,s2,ts2,fs2,zs2⟩:=z)
  |(obtain rfl:=WB n4)
 all_goals first
  |(obtain⟨t,rfl⟩:=Co n2
    obtain⟨k3,i3,s3,ts3⟩:=t)
  |(obtain rfl:=WB n2)
 all_goals first
  |rw[Yh9 (by decide)]
  |rw[Ygm (by decide)]
  |skip
 all_goals
  refine M.F Tryz.func54 ?_;(repeat' first|refine M.gw ?_|refine M.gs ?_ ?_<;>intro h|refine M.bl ?_|fail)
 all_goals first
  |rfl
  |(show V.bool _=V.bool _;congr 1;rw[Xm];simp[DV];done)
  |(show V.bool _=V.bool _;congr 1;rw[Xm];simp_all[DV];done)
  |trace_state
theorem Ybf:∀(n:Nat) (p:Pf),p.full<=n->n<1000000000->p.err=0->p.ix 549755813888->PC E 100 [.agg p.view] (.AD [.agg (E0 p).1.view,.bool (E0 p).2.1,.i (E0 p).2.2]):=by
 intro n;induction n with
 |zero=>intro p h;have:=p.Aa;omega
 |succ n ih=>
 intro p hsz hn he hix;obtain⟨hs,_,_⟩:=(Pf.Ad p).1 he;have hsz':=p.Af;have hlen:=zd Pf.full Pf.Aa p.args;have h1:=S1 p hs;have hxi:=((Pf.AY _ _).1 hix).2.2;by_cases hr:xl p=true
 .have h2:=Zww p he hix hr;have hno:=Zuh p;have ex:p.nx=((zj p).1,true,(zj p).2):=by rw[Pf.CF,if_pos hr]
  unfold E0;rw[ex];rw[hr] at h1;generalize zj p=R at*;obtain⟨u,e⟩:=R;simp only at h2 hno ⊢;by_cases e0:e=0
  .rw[if_pos e0];refine M.F Tryz.func100 ?_;(repeat' first|refine M.gw ?_|refine M.c2 (h1) ?_|refine M.c2 (h2) ?_|fail)
   rfl
  .rw[if_neg e0];rw[hno e0] at h2;refine M.F Tryz.func100 ?_;(repeat' first|refine M.gw ?_|refine M.c2 (h1) ?_|refine M.c2 (h2) ?_|fail)
   rfl
 rw[X4] at hr;have ex:p.nx=(.mk p.kind p.index p.ty p.terms p.Ac (Pf.CQ p.args).1,(Pf.CQ p.args).2.1,(Pf.CQ p.args).2.2):=by rw[Pf.CF,if_neg (by simp[hr])]
 unfold E0;rw[ex];rw[hr] at h1;refine M.F Tryz.func100 ?_;(repeat' first|refine M.gw ?_|refine M.c2 (h1) ?_|fail);refine AW.range p.args.length (fun m=>∀i (hi:i<p.args.length),i<m->p.args[i].nx.2.1=false/\p.args[i].nx.2.2=0)
  (fun m=>([(1,.ptr 0 0),(2,.ptr 1 0),(23,.s .pf p.args),(24,.i p.args.length),(25,.i m)],⟨2,[(0,.var p.view),(1,.var [.i 0,.i 0,.i 0,.slice .nil (.t .ty []),.slice .nil (.t .tm []),.slice .nil (.t .fm []),.slice .nil (.t .pf [])])]⟩))
  (by omega) (fun m=>rfl) (fun m=>rfl) rfl (fun i _ h=>by omega) (M.W [some 0,some 1]) ?_ ?_
 .intro m hm hP;have hs2:=za Pf.full (Wi hm);have hc:=ih p.args[m] (by omega) (by omega) (Ln he (Wi hm)) (hxi _ (Wi hm));unfold E0 at hc;by_cases hd:p.args[m].nx.2.1=true\/p.args[m].nx.2.2≠0
  .rw[Oo p.args m hm hP hd];simp only;generalize p.args[m].nx=R at*;obtain⟨u,f,e⟩:=R;simp only at hc hd ⊢;by_cases e0:e=0
   .subst e0;have ht:f=true:=hd.resolve_right (by simp);subst ht;try rw[if_pos rfl] at hc
    try rw[if_pos rfl]
    (repeat' first|refine M.go ?_|refine M.c2 (hc) ?_|refine M.z1 12 ?_|refine M.gk ?_|fail);refine K.sq (AW.AV ?_);refine L.Gp rfl rfl rfl rfl rfl ?_;refine L.Dr rfl rfl rfl rfl rfl rfl ?_;refine L.KO (te:=30) rfl rfl rfl rfl (by kernel_rfl) rfl rfl rfl rfl (by omega) (by omega) ?_;(repeat' first|refine M.gw ?_|fail);refine L.Ev m rfl rfl rfl rfl rfl hm rfl ?_;refine L.sta (c:= .pf) (l:=p.args) (u:=u) m rfl rfl rfl rfl rfl rfl rfl rfl hm rfl ?_;(repeat' first|refine M.go ?_|refine M.z1 14 ?_|refine M.gk ?_|fail);refine AW.BQ (c:= .pf) 5 p.args.length (p.args.set m u) rfl (by simp) (by(repeat'(first|exact trivial|exact fun _=>rfl|exact fun h=>absurd rfl h|exact fun h=>absurd h (by decide)|refine And.intro ?_ ?_|intro _));done) (by(repeat'(first|exact trivial|exact fun _=>rfl|exact fun h=>absurd rfl h|exact fun h=>absurd h (by decide)|refine And.intro ?_ ?_|intro _));done) ?_;(repeat' first|refine M.gw ?_|fail)
    rfl
   .try rw[if_neg e0] at hc
    try rw[if_neg e0]
    (repeat' first|refine M.gw ?_|refine M.c2 (hc) ?_|refine M.cs ?_ ?_<;>intro h|fail);all_goals first
     |rfl
     |(exfalso;simp at h;exact e0 h)
     |trace_state
  .have g1:p.args[m].nx.2.1=false:=by cases h:p.args[m].nx.2.1 with|false=>rfl|true=>exact absurd (.inl h) hd
   have g2:p.args[m].nx.2.2=0:=Xa fun h=>hd (.inr h);try rw[if_pos g2] at hc
   generalize hR:p.args[m].nx=R at*;obtain⟨u,f,e⟩:=R;simp only at hc g1 g2;subst g1 g2;(repeat' first|refine M.gw ?_|refine M.c2 (hc) ?_|fail);all_goals first
    |(exfalso;simp at h;done)
    |skip
   refine⟨rfl,fun i hi him=> ?_,(M.W [some 0,some 1])⟩;by_cases e:i=m
   .subst e;rw[hR];exact⟨rfl,rfl⟩
   .exact hP i hi (by omega)
 .intro hP;rw[NJ p.args fun i hi=>hP i hi hi];try rw[if_pos rfl]
  (repeat' first|refine M.gw ?_|fail)
  rfl
theorem TJ(p:Pf)(hf:p.full<900000000)(he:p.err=0)(hix:p.ix 549755813888):PC E 59 [.agg p.view] (.AD [.agg (yn p).1.view,.bool (yn p).2.1,.i (yn p).2.2]):=by
 have h1:=Ybf _ p (Wj _) (by omega) he hix;have hff:=Yei p;have h2:=L1 (E0 p).1 (by omega);rw[Ydn p ((Pf.Ad p).1 he).1];generalize E0 p=R at*;obtain⟨u,f,e⟩:=R;simp only at h1 h2 ⊢;generalize (u.small&&decide (u.size<=16384))=b at*;by_cases e0:e=0
 .cases b with
  |true=>
   rw[if_neg (by simp[e0])];subst e0;refine M.F Tryz.func59 ?_;(repeat' first|refine M.gw ?_|refine M.c2 (h1) ?_|refine M.c2 (h2) ?_|fail);all_goals first
    |rfl
    |(exfalso;simp at h;done)
    |trace_state
  |false=>
   rw[if_pos (.inr rfl)];subst e0;refine M.F Tryz.func59 ?_;(repeat' first|refine M.gw ?_|refine M.c2 (h1) ?_|refine M.c2 (h2) ?_|fail);all_goals first
    |rfl
    |(exfalso;simp at h;done)
    |trace_state
 .rw[if_pos (.inl e0)];refine M.F Tryz.func59 ?_;(repeat' first|refine M.go ?_|refine M.c2 (h1) ?_|refine M.c2 (h2) ?_|refine M.gs ?_ ?_<;>intro h|refine M.z1 4 ?_|refine M.cs ?_ ?_<;>intro h|refine M.gk ?_|fail);all_goals first
   |rfl
   |(exfalso;simp at h;done)
   |(exfalso;simp_all;done)
   |trace_state
end Go.Ab
