/- A part of this seat's proofs. No conditions. -/
import Derived.Test.YtknjfffhfolkcaaGreatDoorHST2
import Derived.Test.YtknjfffhfolkcaaGreatDoorHST4
namespace Go.Ab
open Go Go.Proofs
set_option maxRecDepth 100000
set_option maxHeartbeats 4000000
set_option linter.all false
def KV(p:Pf):Prop:=∀c:Ck,c.ok->PC E 74 [.agg c.view,.agg p.view] (DF (Cn p c).1 (Cn p c).2.1 (Cn p c).2.2)
theorem Znj{p:Pf}(h:p.small=true):(∀t∈p.terms,t.size<=4096)/\(∀f∈p.Ac,f.size<=4096)/\∀x∈p.args,x.small=true:=by
 rw[p.BT] at h;simp only[Wk,Wm,decide_eq_true_eq] at h;exact⟨h.1.1,h.1.2,h.2⟩
theorem Zr0{p:Pf}{c:Ck}(hc:c.ok)(hr:vg c (G8 p.kind p.index p.ty p.terms p.Ac (p.args.map Cn) c))
 (hrl:PC E 106 [.agg c.view,.agg p.view] (Cu (G8 p.kind p.index p.ty p.terms p.Ac (p.args.map Cn) c))):
 PC E 74 [.agg c.view,.agg p.view] (DF (Cn p c).1 (Cn p c).2.1 (Cn p c).2.2):=by
 rw[QZ];generalize G8 p.kind p.index p.ty p.terms p.Ac (p.args.map Cn) c=r at*;obtain⟨f,u,e⟩:=r;unfold JX;by_cases he:e=0;case neg=>
  rw[if_pos he];refine M.F Tryz.func74 ?_;(repeat' first|refine M.go ?_|refine M.c2 (hrl) ?_|refine M.z1 4 ?_|refine M.cs ?_ ?_<;>intro h|refine M.gk ?_|fail);all_goals first
   |rfl
   |(exfalso;simp at h;exact he h)
   |trace_state
 subst he;rw[if_neg (by simp)];obtain⟨r1,r2,r3,r4⟩:=hr rfl;simp only at r1 r2;have hfl:=ux f r1;have h1:=JT f (by omega);by_cases hf:f.err=0;case neg=>
  rw[if_pos hf];refine M.F Tryz.func74 ?_;(repeat' first|refine M.go ?_|refine M.c2 (hrl) ?_|refine M.c2 (h1) ?_|refine M.z1 6 ?_|refine M.cs ?_ ?_<;>intro h|refine M.gk ?_|fail);all_goals first
   |rfl
   |(exfalso;simp at h;exact hf h)
   |trace_state
 rw[if_neg (by simp[hf])];have h2:=Zs3 f hf;rw[hf] at h1;cases hcf:Ef f with
 |true=>
  rw[hcf] at h2;rw[if_pos rfl];refine M.F Tryz.func74 ?_;(repeat' first|refine M.gw ?_|refine M.c2 (hrl) ?_|refine M.c2 (h1) ?_|refine M.c2 (h2) ?_|fail);all_goals first
   |rfl
   |trace_state
 |false=>
  rw[hcf] at h2;rw[if_neg (by simp)];refine M.F Tryz.func74 ?_;(repeat' first|refine M.gw ?_|refine M.c2 (hrl) ?_|refine M.c2 (h1) ?_|refine M.c2 (h2) ?_|fail);all_goals first
   |rfl
   |trace_state
theorem Zzi{t:Tm}(hs:t.shape=true)(hz:t.size<=4096):t.full<=300000:=by have:=KU t hs;omega
theorem Ya9{f:Fm}(hs:f.shape=true)(hz:f.size<=4096):f.full<=300000:=by have:=ux f hs;omega
section
variable {c:Ck}
theorem Yai{s:Ty}{p:Pf}{r:Cz}(h1:PC E 144 [.agg c.view,.agg (Pf.mk 8 0 s [] [] [p]).view] (Cu r)):PC E 106 [.agg c.view,.agg (Pf.mk 8 0 s [] [] [p]).view] (Cu r):=by
 refine M.F Tryz.func106 ?_;(repeat' first|refine M.gw ?_|refine M.c2 (h1) ?_|refine M.bl ?_|fail)
 rfl
theorem Ztm{s:Ty}{p:Pf}{r:Cz}(h1:PC E 144 [.agg c.view,.agg (Pf.mk 12 0 s [] [] [p]).view] (Cu r)):PC E 106 [.agg c.view,.agg (Pf.mk 12 0 s [] [] [p]).view] (Cu r):=by
 refine M.F Tryz.func106 ?_;(repeat' first|refine M.gw ?_|refine M.c2 (h1) ?_|refine M.bl ?_|fail)
 rfl
theorem Ycy{t:Tm}{p:Pf}{r:Cz}(h1:PC E 145 [.agg c.view,.agg (Pf.mk 9 0 (.mk 0 []) [t] [] [p]).view] (Cu r)):PC E 106 [.agg c.view,.agg (Pf.mk 9 0 (.mk 0 []) [t] [] [p]).view] (Cu r):=by
 refine M.F Tryz.func106 ?_;(repeat' first|refine M.gw ?_|refine M.c2 (h1) ?_|refine M.bl ?_|fail)
 rfl
theorem Zzf{t:Tm}{p:Pf}{r:Cz}(h1:PC E 145 [.agg c.view,.agg (Pf.mk 13 0 (.mk 0 []) [t] [] [p]).view] (Cu r)):PC E 106 [.agg c.view,.agg (Pf.mk 13 0 (.mk 0 []) [t] [] [p]).view] (Cu r):=by
 refine M.F Tryz.func106 ?_;(repeat' first|refine M.gw ?_|refine M.c2 (h1) ?_|refine M.bl ?_|fail)
 rfl
theorem Ya6{t:Tm}{f:Fm}{p:Pf}{r:Cz}(h1:PC E 146 [.agg c.view,.agg (Pf.mk 10 0 (.mk 0 []) [t] [f] [p]).view] (Cu r)):PC E 106 [.agg c.view,.agg (Pf.mk 10 0 (.mk 0 []) [t] [f] [p]).view] (Cu r):=by
 refine M.F Tryz.func106 ?_;(repeat' first|refine M.gw ?_|refine M.c2 (h1) ?_|refine M.bl ?_|fail)
 rfl
theorem Zys{t:Tm}{f:Fm}{p:Pf}{r:Cz}(h1:PC E 146 [.agg c.view,.agg (Pf.mk 14 0 (.mk 0 []) [t] [f] [p]).view] (Cu r)):PC E 106 [.agg c.view,.agg (Pf.mk 14 0 (.mk 0 []) [t] [f] [p]).view] (Cu r):=by
 refine M.F Tryz.func106 ?_;(repeat' first|refine M.gw ?_|refine M.c2 (h1) ?_|refine M.bl ?_|fail)
 rfl
theorem Zsx{p q:Pf}{r:Cz}(h1:PC E 147 [.agg c.view,.agg (Pf.mk 11 0 (.mk 0 []) [] [] [p,q]).view] (Cu r)):PC E 106 [.agg c.view,.agg (Pf.mk 11 0 (.mk 0 []) [] [] [p,q]).view] (Cu r):=by
 refine M.F Tryz.func106 ?_;(repeat' first|refine M.gw ?_|refine M.c2 (h1) ?_|refine M.bl ?_|fail)
 rfl
theorem Zs8{p q:Pf}{r:Cz}(h1:PC E 147 [.agg c.view,.agg (Pf.mk 15 0 (.mk 0 []) [] [] [p,q]).view] (Cu r)):PC E 106 [.agg c.view,.agg (Pf.mk 15 0 (.mk 0 []) [] [] [p,q]).view] (Cu r):=by
 refine M.F Tryz.func106 ?_;(repeat' first|refine M.gw ?_|refine M.c2 (h1) ?_|refine M.bl ?_|fail)
 rfl
theorem Zu6{t:Tm}{f:Fm}{p q:Pf}{r:Cz}(h1:PC E 148 [.agg c.view,.agg (Pf.mk 16 0 (.mk 0 []) [t] [f] [p,q]).view] (Cu r)):PC E 106 [.agg c.view,.agg (Pf.mk 16 0 (.mk 0 []) [t] [f] [p,q]).view] (Cu r):=by
 refine M.F Tryz.func106 ?_;(repeat' first|refine M.gw ?_|refine M.c2 (h1) ?_|refine M.bl ?_|fail)
 rfl
theorem Zr9{t:Tm}{f:Fm}{p q:Pf}{r:Cz}(h1:PC E 149 [.agg c.view,.agg (Pf.mk 17 0 (.mk 0 []) [t] [f] [p,q]).view] (Cu r)):PC E 106 [.agg c.view,.agg (Pf.mk 17 0 (.mk 0 []) [t] [f] [p,q]).view] (Cu r):=by
 refine M.F Tryz.func106 ?_;(repeat' first|refine M.gw ?_|refine M.c2 (h1) ?_|refine M.bl ?_|fail)
 rfl
theorem Zn6{f:Fm}{p q:Pf}{r:Cz}(h1:PC E 151 [.agg c.view,.agg (Pf.mk 19 0 (.mk 0 []) [] [f] [p,q]).view] (Cu r)):PC E 106 [.agg c.view,.agg (Pf.mk 19 0 (.mk 0 []) [] [f] [p,q]).view] (Cu r):=by
 refine M.F Tryz.func106 ?_;(repeat' first|refine M.gw ?_|refine M.c2 (h1) ?_|refine M.bl ?_|fail)
 rfl
theorem Zmv{p:Pf}{r:Cz}(h1:PC E 152 [.agg c.view,.agg (Pf.mk 20 0 (.mk 0 []) [] [] [p]).view] (Cu r)):PC E 106 [.agg c.view,.agg (Pf.mk 20 0 (.mk 0 []) [] [] [p]).view] (Cu r):=by
 refine M.F Tryz.func106 ?_;(repeat' first|refine M.gw ?_|refine M.c2 (h1) ?_|refine M.bl ?_|fail)
 rfl
theorem Ybk{t:Tm}(hc:c.ok)(ht:t.full<=300000):PC E 106 [.agg c.view,.agg (Pf.mk 18 0 (.mk 0 []) [t] [] []).view] (Cu (JJ t c)):=by
 have h1:=GQ t t (by omega) (by omega);have h2:=O2 c t 1 (by omega) (by have:=hc.sum;omega);unfold JJ;refine M.F Tryz.func106 ?_;(repeat' first|refine M.gw ?_|refine M.c2 (h1) ?_|refine M.c2 (h2) ?_|refine M.bl ?_|fail)
 rfl
end
theorem Zz9(p:Pf):p.shape=true->p.small=true->KV p:=by
 induction p using Pf.ind with
 |h p ih=>
  intro hs hm c hc;refine Zr0 hc (Yay hs hc) ?_;obtain⟨h1,h2,h3,h4⟩:=ze hs;obtain⟨m1,m2,m3⟩:=Znj hm;obtain⟨nd,n1,n2,n3,n4,n5,n6,n7,n8,n9⟩:=xr hs;have hA:∀a∈p.args,KV a/\B8 (Cn a):=fun a ha=>⟨ih a ha (h4 a ha) (m3 a ha),Mn a (h4 a ha)⟩;have hT:∀t∈p.terms,t.full<=300000:=fun t ht=>Zzi (h2 t ht) (m1 t ht);have hF:∀f∈p.Ac,f.full<=300000:=fun f hf=>Ya9 (h3 f hf) (m2 f hf);have hS:∀f∈p.Ac,f.shape=true:=h3;have hk:p.kind=1\/p.kind=2\/p.kind=3\/p.kind=4\/p.kind=5\/p.kind=6\/p.kind=7\/p.kind=8\/p.kind=9\/p.kind=10\/p.kind=11\/p.kind=12\/p.kind=13\/p.kind=14\/p.kind=15\/p.kind=16\/p.kind=17\/p.kind=18\/p.kind=19\/p.kind=20:=by omega
  clear ih hs hm h1 h2 h3 h4 m1 m2 m3 n9;obtain⟨k,i,s,ts,fs,zs⟩:=p;simp only[Pf.kind,Pf.index,Pf.ty,Pf.terms,Pf.Ac,Pf.args] at*;have hroom:c.tys.length+1<=16->∀s:Ty,s.err=0->(c.below [s]).ok:=fun h s hs=>hc.below (l:=[s]) h (by simpa using hs);rcases hk with rfl|rfl|rfl|rfl|rfl|rfl|rfl|rfl|rfl|rfl|rfl|rfl|rfl|rfl|rfl|rfl|rfl|rfl|rfl|rfl;all_goals(simp only[BD,reduceIte,Int.reduceEq,or_false,false_or,or_true,true_or,Wq] at n1)
  all_goals(subst n1)
  all_goals(simp only[forall_const,reduceCtorEq,false_implies,YS,Yq] at n2 n3 n4 n6 n7 n8)
  all_goals(first|(obtain rfl:=Oj n2)|(obtain⟨t,rfl⟩:=O6 n2))
  all_goals(first|(obtain rfl:=Oj n3)|(obtain⟨f,rfl⟩:=O6 n3))
  all_goals(first|(obtain rfl:=Oj n4)|(obtain⟨a,rfl⟩:=O6 n4)|(obtain⟨a,b,rfl⟩:=ln2 n4))
  all_goals(try subst n6)
  all_goals(try subst n8)
  .exact Yd5 hc i n5
  .exact Yek hc i n5
  .exact Ydw hc ((hA a (by simp)).1 c hc) ((hA b (by simp)).1 c hc) ((hA a (by simp)).2 c hc) ((hA b (by simp)).2 c hc)
  .exact Uy hc 0 (by omega) ((hA a (by simp)).1 c hc) ((hA a (by simp)).2 c hc)
  .exact Uy hc 1 (by omega) ((hA a (by simp)).1 c hc) ((hA a (by simp)).2 c hc)
  .exact Ya1 hc (hF f (by simp)) (fun t0 r0=>(hA a (by simp)).1 _ (hc.AA (wj r0).2 (xo t0).1 (xo t0).2))
    (fun t0 r0=>by
     have ho:=hc.AA (wj r0).2 (xo t0).1 (xo t0).2;exact(F7 ho ((hA a (by simp)).2 _ ho)).1)
  .exact Yam hc ((hA a (by simp)).1 c hc) ((hA b (by simp)).1 c hc) ((hA a (by simp)).2 c hc) ((hA b (by simp)).2 c hc)
  .exact Yai (TC hc (.inl rfl) n7 (fun r0=>(hA a (by simp)).1 _ (hroom (wj r0).1 s n7)) (fun r0=>F7 (hroom (wj r0).1 s n7) ((hA a (by simp)).2 _ (hroom (wj r0).1 s n7))))
  .exact Ycy (SB hc (.inl rfl) (hT t (by simp)) ((hA a (by simp)).1 c hc) ((hA a (by simp)).2 c hc))
  .exact Ya6 (UQ (r0:=Cn a) hc (.inl rfl) (hF f (by simp)) (hT t (by simp)) (H7 hc (by have:=V3 f;have:=hF f (by simp);omega) (hT t (by simp)) ((hA a (by simp)).1 c hc) ((hA a (by simp)).2 c hc)) (wq (hA a (by simp)).2 hc _ _))
  .exact Zsx (TG (r0:=Cn a) (r1:=Cn b) hc (.inl rfl) rfl rfl ((hA a (by simp)).1 c hc) ((hA a (by simp)).2 c hc) (fun h=>(hA b (by simp)).1 _ h) (fun h=>(hA b (by simp)).2 _ h))
  .exact Ztm (TC hc (.inr rfl) n7 (fun r0=>(hA a (by simp)).1 _ (hroom (wj r0).1 s n7)) (fun r0=>F7 (hroom (wj r0).1 s n7) ((hA a (by simp)).2 _ (hroom (wj r0).1 s n7))))
  .exact Zzf (SB hc (.inr rfl) (hT t (by simp)) ((hA a (by simp)).1 c hc) ((hA a (by simp)).2 c hc))
  .exact Zys (UQ (r0:=Cn a) hc (.inr rfl) (hF f (by simp)) (hT t (by simp)) (H7 hc (by have:=V3 f;have:=hF f (by simp);omega) (hT t (by simp)) ((hA a (by simp)).1 c hc) ((hA a (by simp)).2 c hc)) (wq (hA a (by simp)).2 hc _ _))
  .exact Zs8 (TG (r0:=Cn a) (r1:=Cn b) hc (.inr rfl) rfl rfl ((hA a (by simp)).1 c hc) ((hA a (by simp)).2 c hc) (fun h=>(hA b (by simp)).1 _ h) (fun h=>(hA b (by simp)).2 _ h))
  .have hff:=hF f (by simp);exact Zu6 (Yij (r0:=Cn a) (r1:=Cn b) hc hff (hT t (by simp)) (H7 hc (by omega) (by decide) ((hA a (by simp)).1 c hc) ((hA a (by simp)).2 c hc))
    (fun h=>H7 h (by have:=(I6 (hS f (by simp)) (fr:=1) (by_:=1) (by omega)).2.2;omega) (by decide) ((hA b (by simp)).1 _ h) ((hA b (by simp)).2 _ h))
    (wq (hA a (by simp)).2 hc _ _) (fun h=>by have:=wq (hA b (by simp)).2 h (f.A9 1 1) (sT (vT 0));simpa[Ck.below,Ck.AA] using this))
  .have hff:=hF f (by simp);exact Zr9 (Ydq (r0:=Cn a) (r1:=Cn b) hc hff (hT t (by simp)) (H7 hc (by omega) (by decide) ((hA a (by simp)).1 c hc) ((hA a (by simp)).2 c hc))
    (fun h=>H7 h (by have:=(I6 (hS f (by simp)) (fr:=1) (by_:=2) (by omega)).2.2;omega) (by decide) ((hA b (by simp)).1 _ h) ((hA b (by simp)).2 _ h))
    (wq (hA a (by simp)).2 hc _ _) (fun h=>by have:=wq (hA b (by simp)).2 h (f.A9 1 2) Ci;simpa[Ck.below,Ck.AA] using this))
  .exact Ybk hc (hT t (by simp))
  .exact Zn6 (Zzm (r0:=Cn a) (r1:=Cn b) hc rfl (hF f (by simp)) ((hA a (by simp)).1 c hc) ((hA a (by simp)).2 c hc) (fun t ht=>H7 hc (by have:=hF f (by simp);omega) ht ((hA b (by simp)).1 c hc) ((hA b (by simp)).2 c hc)))
  .exact Zmv (Zw3 (r0:=Cn a) hc rfl ((hA a (by simp)).1 c hc) ((hA a (by simp)).2 c hc))
theorem Yhq(lems hyps:List Fm)(tys:List Ty)(hl:∀f∈lems,f.full<274877906944)(hh:∀f∈hyps,f.full<274877906944)(ht:(tys.map Ty.size).sum<549755813888)(hll:lems.length<549755813888)(hhl:hyps.length<549755813888):
 PC E 73 [.s .fm lems,.agg [.s .ty tys,.s .fm hyps]] (.i (GH lems tys hyps)):=by
 have h1:=P8 tys (by omega);unfold GH;by_cases c1:lems.length>32
 .rw[if_pos c1];refine M.F Tryz.func73 ?_;(repeat' first|refine M.go ?_|refine M.z1 3 ?_|refine M.cs ?_ ?_<;>intro h|refine M.gk ?_|fail);all_goals first
   |rfl
   |(exfalso;simp at h;omega)
   |trace_state
 rw[if_neg c1];refine M.F Tryz.func73 ?_;(repeat' first|refine M.gw ?_|refine M.cs ?_ ?_<;>intro h|fail)
 .exfalso;simp at h;omega
 refine AW.range lems.length (fun m=>∀j (hj:j<lems.length),j<m->yq [] lems[j]=0)
  (fun m=>([(3,.ptr 0 0),(15,.s .fm lems),(16,.i lems.length),(17,.i m)],⟨1,[(0,.var [.s .ty tys,.s .fm hyps])]⟩))
  (by omega) (fun m=>rfl) (fun m=>rfl) rfl (fun j hj h=>by omega) (M.W [some 0]) ?_ ?_
 .intro m hm hP;have hc:=Ml [] lems[m] (by have:=hl _ (Wi hm);omega) (by simp);by_cases hx:yq [] lems[m]=0
  .rw[hx] at hc;(repeat' first|refine M.gw ?_|refine M.c2 (hc) ?_|fail);exact⟨rfl,ya (p:=fun f=>yq [] f=0) hm hP hx,(M.W [some 0])⟩
  .have e:=Ji hm hP hx;rw[e,if_pos hx];(repeat' first|refine M.gw ?_|refine M.c2 (hc) ?_|refine M.cs ?_ ?_<;>intro h|fail);all_goals first
    |rfl
    |(exfalso;rename_i h5;simp at h5;exact hx h5)
    |(exfalso;simp at h;exact hx h)
    |trace_state
 .intro hP;rw[wv fun j hj _=>hP j hj hj,if_neg (by simp)];by_cases c2:xd tys=0;case neg=>
   rw[if_pos c2];(repeat' first|refine M.go ?_|refine M.c2 (h1) ?_|refine M.z1 13 ?_|refine M.cs ?_ ?_<;>intro h|refine M.gk ?_|fail);all_goals first
    |rfl
    |(exfalso;simp at h;exact c2 h)
    |trace_state
  rw[if_neg (by simp[c2])];rw[c2] at h1;by_cases c3:hyps.length>16
  .rw[if_pos c3];(repeat' first|refine M.go ?_|refine M.c2 (h1) ?_|refine M.z1 15 ?_|refine M.cs ?_ ?_<;>intro h|refine M.gk ?_|fail);all_goals first
    |rfl
    |(exfalso;simp at h;omega)
    |trace_state
  rw[if_neg c3];(repeat' first|refine M.gw ?_|refine M.c2 (h1) ?_|refine M.cs ?_ ?_<;>intro h|fail)
  .exfalso;simp at h;omega
  refine AW.range hyps.length (fun m=>∀j (hj:j<hyps.length),j<m->yq tys hyps[j]=0)
   (fun m=>([(3,.ptr 0 0),(38,.s .fm hyps),(39,.i hyps.length),(40,.i m)],⟨1,[(0,.var [.s .ty tys,.s .fm hyps])]⟩))
   (by omega) (fun m=>rfl) (fun m=>rfl) rfl (fun j hj h=>by omega) (M.W [some 0]) ?_ ?_
  .intro m hm hP2;have hc:=Ml tys hyps[m] (by have:=hh _ (Wi hm);omega) (by omega);by_cases hx:yq tys hyps[m]=0
   .rw[hx] at hc;(repeat' first|refine M.gw ?_|refine M.c2 (hc) ?_|fail);exact⟨rfl,ya (p:=fun f=>yq tys f=0) hm hP2 hx,(M.W [some 0])⟩
   .have e:=Ji hm hP2 hx;rw[e];(repeat' first|refine M.gw ?_|refine M.c2 (hc) ?_|refine M.cs ?_ ?_<;>intro h|fail);all_goals first
     |rfl
     |(exfalso;rename_i h5;simp at h5;exact hx h5)
     |(exfalso;simp at h;exact hx h)
     |trace_state
  .intro hP2;rw[wv fun j hj _=>hP2 j hj hj];(repeat' first|refine M.gw ?_|fail)
   rfl
theorem SA(lems hyps:List Fm)(tys:List Ty)(p:Pf)(hl:∀f∈lems,f.full<274877906944)(hh:∀f∈hyps,f.full<274877906944)(ht:(tys.map Ty.size).sum<549755813888)(hll:lems.length<549755813888)(hhl:hyps.length<549755813888)(hp:p.full<274877906944):
 PC E 30 [.s .fm lems,.agg [.s .ty tys,.s .fm hyps],.agg p.view] (DF (IK lems tys hyps p).1 (IK lems tys hyps p).2.1 (IK lems tys hyps p).2.2):=by
 have h1:=Yhq lems hyps tys hl hh ht hll hhl;have h2:=v7 p (by omega);unfold IK;by_cases c1:GH lems tys hyps=0;case neg=>
  rw[if_pos c1];refine M.F Tryz.func30 ?_;(repeat' first|refine M.go ?_|refine M.c2 (h1) ?_|refine M.z1 4 ?_|refine M.cs ?_ ?_<;>intro h|refine M.gk ?_|fail);all_goals first
   |rfl
   |(exfalso;simp at h;exact c1 h)
   |trace_state
 rw[if_neg (by simp[c1])];rw[c1] at h1;by_cases c2:p.err=0;case neg=>
  rw[if_pos c2];refine M.F Tryz.func30 ?_;(repeat' first|refine M.go ?_|refine M.c2 (h1) ?_|refine M.c2 (h2) ?_|refine M.z1 7 ?_|refine M.cs ?_ ?_<;>intro h|refine M.gk ?_|fail);all_goals first
   |rfl
   |(exfalso;simp at h;exact c2 h)
   |trace_state
 rw[if_neg (by simp[c2])];rw[c2] at h2;obtain⟨ps,pm,_⟩:=(Pf.Ad p).1 c2;have hok:=Ycx c1;have h3:PC E 74 [.agg [.s .fm lems,.s .ty tys,.s .fm hyps],.agg p.view] (DF (Cn p ⟨lems,tys,hyps⟩).1 (Cn p ⟨lems,tys,hyps⟩).2.1 (Cn p ⟨lems,tys,hyps⟩).2.2):=Zz9 p ps pm ⟨lems,tys,hyps⟩ hok;have hro:=Mn p ps ⟨lems,tys,hyps⟩ hok;generalize Cn p ⟨lems,tys,hyps⟩=r at*;obtain⟨f,u,e⟩:=r;have hb:=F7 hok hro;have h4:=ve _ f (Wj _) (by omega);by_cases he:e=0
 .subst he;refine M.F Tryz.func30 ?_;(repeat' first|refine M.gw ?_|refine M.c2 (h1) ?_|refine M.c2 (h2) ?_|refine M.c2 (h3) ?_|refine M.c2 (h4) ?_|fail)
  rfl
 .have e1:=hro.2 he;simp only[yd,Zu] at e1;obtain⟨rfl,rfl,_⟩:=e1;refine M.F Tryz.func30 ?_;(repeat' first|refine M.go ?_|refine M.c2 (h1) ?_|refine M.c2 (h2) ?_|refine M.c2 (h3) ?_|refine M.z1 10 ?_|refine M.cs ?_ ?_<;>intro h|refine M.gk ?_|fail);all_goals first
   |rfl
   |(exfalso;simp at h;exact he h)
   |trace_state
theorem Zmj(p:Pf):(p.shape=false/\p.err=2/\p.num=0)\/(p.shape=true/\(p.small=false\/p.size>16384)/\p.err=4/\p.num=0)\/(p.shape=true/\p.small=true/\p.size<=16384/\p.err=0/\p.num=p.size):=by
 unfold Pf.num Pf.err;cases hs:p.shape with
 |false=>simp
 |true=>
  by_cases h:p.small=false\/p.size>16384
  .simp[h]
  .have h':=h;rw[not_or,XF] at h';simp[h,h'.1];omega
theorem Vf(p:Pf)(hp:p.full<274877906944):PC E 87 [.agg p.view] (.AD [.i p.num,.i p.err]):=by
 have ht:=Yah _ p (0,false) (Wj _) hp (by simp only;omega);obtain⟨t1,t2,t3⟩:=PK p (0,false);rw[t1] at ht;have hsz:=p.Aj;rcases Zmj p with⟨h1,h2,h3⟩|⟨h1,h2,h3,h4⟩|⟨h1,h2,h3,h4,h5⟩
 .rw[h2,h3];rw[h1] at ht;refine M.F Tryz.func87 ?_;(repeat' first|refine M.gw ?_|refine M.cb (ht) [1] 0 ?_|refine M.zb ?_|fail)
  rfl
 .rw[h3,h4];rw[h1] at ht;obtain⟨t4,t5⟩:=t3 h1;rw[t4] at ht;cases hm:p.small with
  |false=>
   rw[hm] at ht;refine M.F Tryz.func87 ?_;(repeat' first|refine M.gw ?_|refine M.cb (ht) [1] 0 ?_|refine M.zb ?_|fail)
   rfl
  |true=>
   have t6:=t5 hm;have h6:p.size>16384:=by rcases h2 with h2|h2;rw[hm] at h2;cases h2;exact h2
   rw[hm,t6] at ht;simp only[Xg,Y0,Bool.or_false] at ht;refine M.F Tryz.func87 ?_;(repeat' first|refine M.gw ?_|refine M.cb (ht) [1] 0 ?_|refine M.zb ?_|refine M.cs ?_ ?_<;>intro h|fail);all_goals first
    |rfl
    |(exfalso;simp at h;omega)
    |trace_state
 .rw[h4,h5];rw[h1] at ht;obtain⟨t4,t5⟩:=t3 h1;have t6:=t5 h2;rw[t4,h2,t6] at ht;simp only[Xg,Y0,Bool.or_false] at ht;refine M.F Tryz.func87 ?_;(repeat' first|refine M.gw ?_|refine M.cb (ht) [1] 0 ?_|refine M.zb ?_|refine M.cs ?_ ?_<;>intro h|fail);all_goals first
   |rfl
   |(exfalso;simp at h;omega)
   |trace_state
theorem Nw(p:Pf)(hp:p.full<274877906944):PC E 51 [.agg p.view] (.i p.err):=by
 have h1:=Vf p hp;refine M.F Tryz.func51 ?_;(repeat' first|refine M.gw ?_|refine M.c2 (h1) ?_|fail)
 rfl
theorem Va(p:Pf)(hp:p.full<200000000000)(hs:p.shape=true):PC E 57 [.agg p.view] (.agg p.view):=by
 have h1:=Yd1 _ p 0 0 (Wj _) (by omega) (by omega) (by omega) hs;refine M.F Tryz.func57 ?_;(repeat' first|refine M.gw ?_|refine M.c2 (h1) ?_|fail)
 rfl
inductive Ch where
 |tm (t:Tm)|fm (f:Fm)|pf (p:Pf)
def Ch.cell:Ch->V
 | .tm t=> .ifc 54 t.view
 | .fm f=> .ifc 62 f.view
 | .pf p=> .ifc 30 p.view
def Ch.err:Ch->Int
 | .tm t=>t.err| .fm f=>f.err| .pf p=>p.err
def Ch.full:Ch->Nat
 | .tm t=>t.full| .fm f=>f.full| .pf p=>p.full
theorem LY(a b:Tm):(Bf a b).full=2+a.full+b.full:=by
 simp only[Bf,Fm.full,Fm.Au,Wn,WI,Wt,WU,Ty.size,Ty.sizes];omega
theorem Jp(i:Int):(vT i).full=2:=by simp only[vT,Tm.full,Tm.Au,Ty.size,Ty.sizes]
theorem JQ(f x:Tm):(A0 f x).full=2+f.full+x.full:=by
 simp only[A0,Tm.full,Tm.Au,Ty.size,Ty.sizes];omega
theorem Ye7(d:Dk)(hd:d.ok):AC E 9 [.ptr 0 0] ⟨1,[(0,.var d.cells)]⟩ (.agg [.s .ty d.ctx.1,.s .fm d.HM]) ⟨1,[(0,.var d.KS.cells)]⟩:=by
 have h1:=Zx5 d hd;have h2:=v6 d.ctx.2 3 (Dk.Fj hd) (by omega);have hb:=Dk.Bv d.ctx.2 3 (by omega);have hg:=d.Cy;have hgl:=d.FE;obtain⟨c,hc⟩:∃c:Nat,(d.ctx.2.next 3).1=c:=⟨(d.ctx.2.next 3).1.toNat,by omega⟩;have hcn:d.Jm=c:=by unfold Dk.Jm;omega
 have hdo:=Dk.AH (Dk.Fj hd) 3;rw[hc] at h2 hb;have eH:d.HM=(Dk.CW c (d.ctx.2.next 3).2 d.ctx.1).1:=by unfold Dk.HM;rw[hcn]
 have eD:d.KS=(Dk.CW c (d.ctx.2.next 3).2 d.ctx.1).2:=by unfold Dk.KS;rw[hcn]
 rw[eH,eD];generalize d.ctx.1=g at*;generalize (d.ctx.2.next 3).2=d2 at*;refine M.F Tryz.func9 ?_;(repeat' first|refine M.gw ?_|refine M.cb (h1) [0] 0 ?_|refine M.cb (h2) [0] 0 ?_|fail);refine AW.down c (fun m=>m<=c)
  (fun m=>([(0,.ptr 0 0),(2,.ptr 1 0),(3,.ptr 2 0),(4,.i m)],⟨4,[(0,.var (Dk.CW (c-m) d2 g).2.cells),(1,.var [.slice .nil (.t .ty []),.slice .nil (.t .fm [])]),(2,.var [.s .ty g,.slice (.own 3) (.t .fm (Dk.CW (c-m) d2 g).1)]),(3,.row)]⟩))
  (by omega) (fun m=>rfl) rfl (Wj _) ?_ ?_ ?_
 .simp only[X6];exact(M.W [some 0,some 1,some 2,none])
 .intro m hm hP;have e:=Dk.DL (c-(m+1)) d2 g;rw[show c-(m+1)+1=c-m by omega] at e;have h3:=OL 2 (Dk.CW (c-(m+1)) d2 g).2 g 2 (by omega) rfl (Dk.DI _ _ _ hdo) hg (by omega);have hl:=Dk.Db (c-(m+1)) d2 g;(repeat' first|refine M.gw ?_|refine M.cb (h3) [0] 0 ?_|fail);refine⟨rfl,by omega,?_⟩;simp only[e];exact(M.W [some 0,some 1,some 2,some 4])
 .intro _;simp only[ZA];(repeat' first|refine M.gw ?_|fail)
  (exact M.n2 [some 0] (h8:=(by simp[zk,V.wk,V.Ap,zc,Ty.view,Tm.view,V.BQ])))
theorem Yej(f:Fm)(fr by_:Int)(hf:f.full<100000000000)(h1:0<=fr/\fr<100000000000)(hby:0<=by_/\by_<=549755813888)(hs:f.shape=true)(hix:∀p∈f.AZ 0,∀q∈p.1.vars 0,0<=q.1/\q.1<549755813888):
 PC E 41 [.agg f.view,.i fr,.i by_] (.agg (f.A9 fr by_).view):=by
 have h:=Vz by_ (by omega) _ f fr (Wj _) (by omega) (by omega) (by omega) hs hix;have e:f.re (fun b t=>t.re (zx b by_) 0) fr=f.A9 fr by_:=by
  have e1:=Fm.CM (fun b t=>t.re (zx b by_) 0) fr f 0;rw[Yh] at e1;rw[e1,Yh5];exact Fm.EZ (fun b t _=>by rw[ZD b fr]) f
 rw[e] at h;exact h
theorem NQ(i:Int):PC E 227 [.i i] (.agg (va i).view):=by
 refine AC.mk Tryz.func227 rfl rfl rfl rfl rfl (Wz rfl) ?_;repeat'(first|((with_reducible refine D.nil ?_);refine AX.Bd ?_)|((with_reducible refine D.move ?_);refine L.mv U U U ?_)|((with_reducible refine D.alloc ?_);refine L.al U U U ?_)|((with_reducible refine D.store ?_);refine L.st U U U U U U U U U ?_)|((with_reducible refine D.ax ?_);refine L.bd U U U U U ?_)|((with_reducible refine D.aw ?_);first|refine K.sq (AW.AV ?_)|refine AW.ret ?_)|with_reducible refine K.tN ?_|with_reducible refine K.r1 (by with_unfolding_all rfl) (by with_unfolding_all rfl) ?_)
 rfl
end Go.Ab
