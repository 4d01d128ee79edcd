/- A part of this seat's proofs. No conditions. -/
import Derived.Test.YtlikcaapgaalhaaGreatDoorEST2
import Derived.Test.YtlikcaapgaalhaaGreatDoorEST21
import Derived.Test.YtlikcaapgaalhaaGreatDoorEST22
import Derived.Test.YtlikcaapgaalhaaGreatDoorEST23
namespace Go.Ab
open Go Go.Proofs
set_option maxRecDepth 100000
set_option maxHeartbeats 4000000
set_option linter.all false
def InfC(p:Pf):Prop:=∀c:Ck,c.ok→PC E 83 [.agg c.view,.agg p.view] (tupI (infP p c).1 (infP p c).2.1 (infP p c).2.2)
theorem psmall_parts{p:Pf}(h:p.small=true):(∀t∈p.terms,t.size≤4096)∧(∀f∈p.forms,f.size≤4096)∧∀x∈p.args,x.small=true:=by
 rw[p.small_eq] at h
 simp only[Bool.and_eq_true,List.all_eq_true,decide_eq_true_eq] at h
 exact⟨h.1.1,h.1.2,h.2⟩
theorem infer_rule{p:Pf}{c:Ck}(hc:c.ok)(hr:RuleOk c (ruleR p.kind p.index p.ty p.terms p.forms (p.args.map infP) c))
 (hrl:PC E 127 [.agg c.view,.agg p.view] (tupR (ruleR p.kind p.index p.ty p.terms p.forms (p.args.map infP) c))):
 PC E 83 [.agg c.view,.agg p.view] (tupI (infP p c).1 (infP p c).2.1 (infP p c).2.2):=by
 rw[infP_eq]
 generalize ruleR p.kind p.index p.ty p.terms p.forms (p.args.map infP) c=r at*
 obtain⟨f,u,e⟩:=r
 unfold finR
 by_cases he:e=0
 case neg=>
  rw[if_pos he]
  refine M.F Tryz.func83 ?_
  repeat'(first|refine M.o1 @hrl ?_|refine M.z1 4 ?_|refine M.cs ?_ ?_<;>intro h|refine M.gk ?_|fail)
  all_goals first
   |rfl
   |(exfalso;simp at h;exact he h)
   |trace_state
 subst he
 rw[if_neg (by simp)]
 obtain⟨r1,r2,r3,r4⟩:=hr rfl
 simp only at r1 r2
 have hfl:=ffull_le f r1
 have h1:=fcheckR_c f (by omega)
 by_cases hf:f.err=0
 case neg=>
  rw[if_pos hf]
  refine M.F Tryz.func83 ?_
  repeat'(first|refine M.o2 @hrl @h1 ?_|refine M.z1 6 ?_|refine M.cs ?_ ?_<;>intro h|refine M.gk ?_|fail)
  all_goals first
   |rfl
   |(exfalso;simp at h;exact hf h)
   |trace_state
 rw[if_neg (by simp[hf])]
 have h2:=rContent_c f hf
 rw[hf] at h1
 cases hcf:contF f with
 |true=>
  rw[hcf] at h2
  rw[if_pos rfl]
  refine M.F Tryz.func83 ?_
  refine M.w3 @hrl @h1 @h2 ?_
  all_goals first
   |rfl
   |trace_state
 |false=>
  rw[hcf] at h2
  rw[if_neg (by simp)]
  refine M.F Tryz.func83 ?_
  refine M.w3 @hrl @h1 @h2 ?_
  all_goals first
   |rfl
   |trace_state
theorem trm_full{t:Tm}(hs:t.shape=true)(hz:t.size≤4096):t.full≤300000:=by have:=tfull_le t hs;omega
theorem frm_full{f:Fm}(hs:f.shape=true)(hz:f.size≤4096):f.full≤300000:=by have:=ffull_le f hs;omega
section
variable {c:Ck}
theorem krAll8_c{s:Ty}{p:Pf}{r:Res}(h1:PC E 174 [.agg c.view,.agg (Pf.mk 8 0 s [] [] [p]).view] (tupR r)):PC E 127 [.agg c.view,.agg (Pf.mk 8 0 s [] [] [p]).view] (tupR r):=by
 refine M.F Tryz.func127 ?_
 refine M.v1 @h1 ?_
 rfl
theorem krAll12_c{s:Ty}{p:Pf}{r:Res}(h1:PC E 174 [.agg c.view,.agg (Pf.mk 12 0 s [] [] [p]).view] (tupR r)):PC E 127 [.agg c.view,.agg (Pf.mk 12 0 s [] [] [p]).view] (tupR r):=by
 refine M.F Tryz.func127 ?_
 refine M.v1 @h1 ?_
 rfl
theorem krAt9_c{t:Tm}{p:Pf}{r:Res}(h1:PC E 175 [.agg c.view,.agg (Pf.mk 9 0 (.mk 0 []) [t] [] [p]).view] (tupR r)):PC E 127 [.agg c.view,.agg (Pf.mk 9 0 (.mk 0 []) [t] [] [p]).view] (tupR r):=by
 refine M.F Tryz.func127 ?_
 refine M.v1 @h1 ?_
 rfl
theorem krAt13_c{t:Tm}{p:Pf}{r:Res}(h1:PC E 175 [.agg c.view,.agg (Pf.mk 13 0 (.mk 0 []) [t] [] [p]).view] (tupR r)):PC E 127 [.agg c.view,.agg (Pf.mk 13 0 (.mk 0 []) [t] [] [p]).view] (tupR r):=by
 refine M.F Tryz.func127 ?_
 refine M.v1 @h1 ?_
 rfl
theorem krEx10_c{t:Tm}{f:Fm}{p:Pf}{r:Res}(h1:PC E 176 [.agg c.view,.agg (Pf.mk 10 0 (.mk 0 []) [t] [f] [p]).view] (tupR r)):PC E 127 [.agg c.view,.agg (Pf.mk 10 0 (.mk 0 []) [t] [f] [p]).view] (tupR r):=by
 refine M.F Tryz.func127 ?_
 refine M.v1 @h1 ?_
 rfl
theorem krEx14_c{t:Tm}{f:Fm}{p:Pf}{r:Res}(h1:PC E 176 [.agg c.view,.agg (Pf.mk 14 0 (.mk 0 []) [t] [f] [p]).view] (tupR r)):PC E 127 [.agg c.view,.agg (Pf.mk 14 0 (.mk 0 []) [t] [f] [p]).view] (tupR r):=by
 refine M.F Tryz.func127 ?_
 refine M.v1 @h1 ?_
 rfl
theorem krOpen11_c{p q:Pf}{r:Res}(h1:PC E 177 [.agg c.view,.agg (Pf.mk 11 0 (.mk 0 []) [] [] [p,q]).view] (tupR r)):PC E 127 [.agg c.view,.agg (Pf.mk 11 0 (.mk 0 []) [] [] [p,q]).view] (tupR r):=by
 refine M.F Tryz.func127 ?_
 refine M.v1 @h1 ?_
 rfl
theorem krOpen15_c{p q:Pf}{r:Res}(h1:PC E 177 [.agg c.view,.agg (Pf.mk 15 0 (.mk 0 []) [] [] [p,q]).view] (tupR r)):PC E 127 [.agg c.view,.agg (Pf.mk 15 0 (.mk 0 []) [] [] [p,q]).view] (tupR r):=by
 refine M.F Tryz.func127 ?_
 refine M.v1 @h1 ?_
 rfl
theorem krInd16_c{t:Tm}{f:Fm}{p q:Pf}{r:Res}(h1:PC E 178 [.agg c.view,.agg (Pf.mk 16 0 (.mk 0 []) [t] [f] [p,q]).view] (tupR r)):PC E 127 [.agg c.view,.agg (Pf.mk 16 0 (.mk 0 []) [t] [f] [p,q]).view] (tupR r):=by
 refine M.F Tryz.func127 ?_
 refine M.v1 @h1 ?_
 rfl
theorem krList17_c{t:Tm}{f:Fm}{p q:Pf}{r:Res}(h1:PC E 179 [.agg c.view,.agg (Pf.mk 17 0 (.mk 0 []) [t] [f] [p,q]).view] (tupR r)):PC E 127 [.agg c.view,.agg (Pf.mk 17 0 (.mk 0 []) [t] [f] [p,q]).view] (tupR r):=by
 refine M.F Tryz.func127 ?_
 refine M.v1 @h1 ?_
 rfl
theorem krSubst19_c{f:Fm}{p q:Pf}{r:Res}(h1:PC E 181 [.agg c.view,.agg (Pf.mk 19 0 (.mk 0 []) [] [f] [p,q]).view] (tupR r)):PC E 127 [.agg c.view,.agg (Pf.mk 19 0 (.mk 0 []) [] [f] [p,q]).view] (tupR r):=by
 refine M.F Tryz.func127 ?_
 refine M.v1 @h1 ?_
 rfl
theorem krChoice20_c{p:Pf}{r:Res}(h1:PC E 182 [.agg c.view,.agg (Pf.mk 20 0 (.mk 0 []) [] [] [p]).view] (tupR r)):PC E 127 [.agg c.view,.agg (Pf.mk 20 0 (.mk 0 []) [] [] [p]).view] (tupR r):=by
 refine M.F Tryz.func127 ?_
 refine M.v1 @h1 ?_
 rfl
theorem krRefl_c{t:Tm}(hc:c.ok)(ht:t.full≤300000):PC E 127 [.agg c.view,.agg (Pf.mk 18 0 (.mk 0 []) [t] [] []).view] (tupR (reflR t c)):=by
 have h1:=eqFm_c t t (by omega) (by omega)
 have h2:=ktyp_c c t 1 (by omega) (by have:=hc.sum;omega)
 unfold reflR
 refine M.F Tryz.func127 ?_
 refine M.v2 @h1 @h2 ?_
 rfl
end
theorem inferR_c(p:Pf):p.shape=true→p.small=true→InfC p:=by
 induction p using Pf.ind with
 |h p ih=>
  intro hs hm c hc
  refine infer_rule hc (ruleR_ok hs hc) ?_
  obtain⟨h1,h2,h3,h4⟩:=pshape_parts hs
  obtain⟨m1,m2,m3⟩:=psmall_parts hm
  obtain⟨nd,n1,n2,n3,n4,n5,n6,n7,n8,n9⟩:=pf_parts hs
  have hA:∀a∈p.args,InfC a∧RsOk (infP a):=fun a ha=>⟨ih a ha (h4 a ha) (m3 a ha),infP_ok a (h4 a ha)⟩
  have hT:∀t∈p.terms,t.full≤300000:=fun t ht=>trm_full (h2 t ht) (m1 t ht)
  have hF:∀f∈p.forms,f.full≤300000:=fun f hf=>frm_full (h3 f hf) (m2 f hf)
  have hS:∀f∈p.forms,f.shape=true:=h3
  have hk:p.kind=1∨p.kind=2∨p.kind=3∨p.kind=4∨p.kind=5∨p.kind=6∨p.kind=7∨p.kind=8∨p.kind=9∨p.kind=10∨p.kind=11∨p.kind=12∨p.kind=13∨p.kind=14∨p.kind=15∨p.kind=16∨p.kind=17∨p.kind=18∨p.kind=19∨p.kind=20:=by omega
  clear ih hs hm h1 h2 h3 h4 m1 m2 m3 n9
  obtain⟨k,i,s,ts,fs,zs⟩:=p
  simp only[Pf.kind,Pf.index,Pf.ty,Pf.terms,Pf.forms,Pf.args] at*
  have hroom:c.tys.length+1≤16→∀s:Ty,s.err=0→(c.below [s]).ok:=fun h s hs=>hc.below (l:=[s]) h (by simpa using hs)
  rcases hk with rfl|rfl|rfl|rfl|rfl|rfl|rfl|rfl|rfl|rfl|rfl|rfl|rfl|rfl|rfl|rfl|rfl|rfl|rfl|rfl
  all_goals(simp only[ndP,reduceIte,Int.reduceEq,or_false,false_or,or_true,true_or,Option.some.injEq] at n1)
  all_goals(subst n1)
  all_goals(simp only[forall_const,reduceCtorEq,false_implies,Bool.true_eq_false,Bool.false_eq_true] at n2 n3 n4 n6 n7 n8)
  all_goals(first|(obtain rfl:=ln0 n2)|(obtain⟨t,rfl⟩:=ln1 n2))
  all_goals(first|(obtain rfl:=ln0 n3)|(obtain⟨f,rfl⟩:=ln1 n3))
  all_goals(first|(obtain rfl:=ln0 n4)|(obtain⟨a,rfl⟩:=ln1 n4)|(obtain⟨a,b,rfl⟩:=ln2 n4))
  all_goals(try subst n6)
  all_goals(try subst n8)
  ·exact krHyp_c hc i n5
  ·exact krLem_c hc i n5
  ·exact krAnd_c hc ((hA a (by simp)).1 c hc) ((hA b (by simp)).1 c hc) ((hA a (by simp)).2 c hc) ((hA b (by simp)).2 c hc)
  ·exact krPrj_c hc 0 (by omega) ((hA a (by simp)).1 c hc) ((hA a (by simp)).2 c hc)
  ·exact krPrj_c hc 1 (by omega) ((hA a (by simp)).1 c hc) ((hA a (by simp)).2 c hc)
  ·exact krImpI_c hc (hF f (by simp)) (fun t0 r0=>(hA a (by simp)).1 _ (hc.with_ (room_ok r0).2 (typedFC_inv t0).1 (typedFC_inv t0).2))
    (fun t0 r0=>by
     have ho:=hc.with_ (room_ok r0).2 (typedFC_inv t0).1 (typedFC_inv t0).2
     exact(resB ho ((hA a (by simp)).2 _ ho)).1)
  ·exact krImpE_c hc ((hA a (by simp)).1 c hc) ((hA b (by simp)).1 c hc) ((hA a (by simp)).2 c hc) ((hA b (by simp)).2 c hc)
  ·exact krAll8_c (kAll_c hc (.inl rfl) n7 (fun r0=>(hA a (by simp)).1 _ (hroom (room_ok r0).1 s n7)) (fun r0=>resB (hroom (room_ok r0).1 s n7) ((hA a (by simp)).2 _ (hroom (room_ok r0).1 s n7))))
  ·exact krAt9_c (kAt_c hc (.inl rfl) (hT t (by simp)) ((hA a (by simp)).1 c hc) ((hA a (by simp)).2 c hc))
  ·exact krEx10_c (kEx_c (r0:=infP a) hc (.inl rfl) (hF f (by simp)) (hT t (by simp)) (kPart_c hc (by have:=arg0_full f;have:=hF f (by simp);omega) (hT t (by simp)) ((hA a (by simp)).1 c hc) ((hA a (by simp)).2 c hc)) (partR_ok (hA a (by simp)).2 hc _ _))
  ·exact krOpen11_c (kOpen_c (r0:=infP a) (r1:=infP b) hc (.inl rfl) rfl rfl ((hA a (by simp)).1 c hc) ((hA a (by simp)).2 c hc) (fun h=>(hA b (by simp)).1 _ h) (fun h=>(hA b (by simp)).2 _ h))
  ·exact krAll12_c (kAll_c hc (.inr rfl) n7 (fun r0=>(hA a (by simp)).1 _ (hroom (room_ok r0).1 s n7)) (fun r0=>resB (hroom (room_ok r0).1 s n7) ((hA a (by simp)).2 _ (hroom (room_ok r0).1 s n7))))
  ·exact krAt13_c (kAt_c hc (.inr rfl) (hT t (by simp)) ((hA a (by simp)).1 c hc) ((hA a (by simp)).2 c hc))
  ·exact krEx14_c (kEx_c (r0:=infP a) hc (.inr rfl) (hF f (by simp)) (hT t (by simp)) (kPart_c hc (by have:=arg0_full f;have:=hF f (by simp);omega) (hT t (by simp)) ((hA a (by simp)).1 c hc) ((hA a (by simp)).2 c hc)) (partR_ok (hA a (by simp)).2 hc _ _))
  ·exact krOpen15_c (kOpen_c (r0:=infP a) (r1:=infP b) hc (.inr rfl) rfl rfl ((hA a (by simp)).1 c hc) ((hA a (by simp)).2 c hc) (fun h=>(hA b (by simp)).1 _ h) (fun h=>(hA b (by simp)).2 _ h))
  ·have hff:=hF f (by simp)
   exact krInd16_c (kInd_c (r0:=infP a) (r1:=infP b) hc hff (hT t (by simp)) (kPart_c hc (by omega) (by decide) ((hA a (by simp)).1 c hc) ((hA a (by simp)).2 c hc))
    (fun h=>kPart_c h (by have:=(lft_keeps (hS f (by simp)) (fr:=1) (by_:=1) (by omega)).2.2;omega) (by decide) ((hA b (by simp)).1 _ h) ((hA b (by simp)).2 _ h))
    (partR_ok (hA a (by simp)).2 hc _ _) (fun h=>by have:=partR_ok (hA b (by simp)).2 h (f.lft 1 1) (sT (vT 0));simpa [Ck.below,Ck.with_] using this))
  ·have hff:=hF f (by simp)
   exact krList17_c (kList_c (r0:=infP a) (r1:=infP b) hc hff (hT t (by simp)) (kPart_c hc (by omega) (by decide) ((hA a (by simp)).1 c hc) ((hA a (by simp)).2 c hc))
    (fun h=>kPart_c h (by have:=(lft_keeps (hS f (by simp)) (fr:=1) (by_:=2) (by omega)).2.2;omega) (by decide) ((hA b (by simp)).1 _ h) ((hA b (by simp)).2 _ h))
    (partR_ok (hA a (by simp)).2 hc _ _) (fun h=>by have:=partR_ok (hA b (by simp)).2 h (f.lft 1 2) consM;simpa [Ck.below,Ck.with_] using this))
  ·exact krRefl_c hc (hT t (by simp))
  ·exact krSubst19_c (kSubst_c (r0:=infP a) (r1:=infP b) hc rfl (hF f (by simp)) ((hA a (by simp)).1 c hc) ((hA a (by simp)).2 c hc) (fun t ht=>kPart_c hc (by have:=hF f (by simp);omega) ht ((hA b (by simp)).1 c hc) ((hA b (by simp)).2 c hc)))
  ·exact krChoice20_c (kChoice_c (r0:=infP a) hc rfl ((hA a (by simp)).1 c hc) ((hA a (by simp)).2 c hc))
theorem kSeq_c(lems hyps:List Fm)(tys:List Ty)(hl:∀f∈lems,f.full<274877906944)(hh:∀f∈hyps,f.full<274877906944)(ht:(tys.map Ty.size).sum<549755813888)(hll:lems.length<549755813888)(hhl:hyps.length<549755813888):
 PC E 81 [.s .fm lems,.agg [.s .ty tys,.s .fm hyps]] (.i (seqE lems tys hyps)):=by
 have h1:=contextR_c tys (by omega)
 unfold seqE
 by_cases c1:lems.length>32
 ·rw [if_pos c1]
  refine M.F Tryz.func81 ?_
  repeat'(first|refine M.o0 ?_|refine M.z1 3 ?_|refine M.cs ?_ ?_<;>intro h|refine M.gk ?_|fail)
  all_goals first
   |rfl
   |(exfalso;simp at h;omega)
   |trace_state
 rw[if_neg c1]
 refine M.F Tryz.func81 ?_
 repeat'(first|refine M.w0 ?_|refine M.cs ?_ ?_<;>intro h|fail)
 ·exfalso;simp at h;omega
 refine M.rp lems.length (fun m=>∀j (hj:j<lems.length),j<m→typedFC [] lems[j]=0)
  (fun m=>([(3,.ptr 0 0),(15,.s .fm lems),(16,.i lems.length),(17,.i m)],⟨1,[(0,.var [.s .ty tys,.s .fm hyps])]⟩))
  (fun j hj h=>by omega) (M.W rh1) ?_ ?_
 ·intro m hm hP
  have hc:=fTyped_c [] lems[m] (by have:=hl _ (List.getElem_mem hm);omega) (by simp)
  by_cases hx:typedFC [] lems[m]=0
  ·rw [hx] at hc
   refine M.w1 @hc ?_
   exact⟨rfl,all_step (p:=fun f=>typedFC [] f=0) hm hP hx,(M.W rh1)⟩
  ·have e:=firstI_at hm hP hx
   rw[e,if_pos hx]
   repeat'(first|refine M.w1 @hc ?_|refine M.cs ?_ ?_<;>intro h|fail)
   all_goals first
    |rfl
    |(exfalso;rename_i h5;simp at h5;exact hx h5)
    |(exfalso;simp at h;exact hx h)
    |trace_state
 ·intro hP
  rw[firstI_none fun j hj _=>hP j hj hj,if_neg (by simp)]
  by_cases c2:ctxErr tys=0
  case neg=>
   rw[if_pos c2]
   repeat'(first|refine M.o1 @h1 ?_|refine M.z1 13 ?_|refine M.cs ?_ ?_<;>intro h|refine M.gk ?_|fail)
   all_goals first
    |rfl
    |(exfalso;simp at h;exact c2 h)
    |trace_state
  rw[if_neg (by simp[c2])]
  rw[c2] at h1
  by_cases c3:hyps.length>16
  ·rw [if_pos c3]
   repeat'(first|refine M.o1 @h1 ?_|refine M.z1 15 ?_|refine M.cs ?_ ?_<;>intro h|refine M.gk ?_|fail)
   all_goals first
    |rfl
    |(exfalso;simp at h;omega)
    |trace_state
  rw[if_neg c3]
  repeat'(first|refine M.w1 @h1 ?_|refine M.cs ?_ ?_<;>intro h|fail)
  ·exfalso;simp at h;omega
  refine M.rp hyps.length (fun m=>∀j (hj:j<hyps.length),j<m→typedFC tys hyps[j]=0)
   (fun m=>([(3,.ptr 0 0),(38,.s .fm hyps),(39,.i hyps.length),(40,.i m)],⟨1,[(0,.var [.s .ty tys,.s .fm hyps])]⟩))
   (fun j hj h=>by omega) (M.W rh1) ?_ ?_
  ·intro m hm hP2
   have hc:=fTyped_c tys hyps[m] (by have:=hh _ (List.getElem_mem hm);omega) (by omega)
   by_cases hx:typedFC tys hyps[m]=0
   ·rw [hx] at hc
    refine M.w1 @hc ?_
    exact⟨rfl,all_step (p:=fun f=>typedFC tys f=0) hm hP2 hx,(M.W rh1)⟩
   ·have e:=firstI_at hm hP2 hx
    rw[e]
    repeat'(first|refine M.w1 @hc ?_|refine M.cs ?_ ?_<;>intro h|fail)
    all_goals first
     |rfl
     |(exfalso;rename_i h5;simp at h5;exact hx h5)
     |(exfalso;simp at h;exact hx h)
     |trace_state
  ·intro hP2
   rw[firstI_none fun j hj _=>hP2 j hj hj]
   refine M.w0 ?_
   rfl
theorem kInfer_c(lems hyps:List Fm)(tys:List Ty)(p:Pf)(hl:∀f∈lems,f.full<274877906944)(hh:∀f∈hyps,f.full<274877906944)(ht:(tys.map Ty.size).sum<549755813888)(hll:lems.length<549755813888)(hhl:hyps.length<549755813888)(hp:p.full<274877906944):
 PC E 47 [.s .fm lems,.agg [.s .ty tys,.s .fm hyps],.agg p.view] (tupI (InferR lems tys hyps p).1 (InferR lems tys hyps p).2.1 (InferR lems tys hyps p).2.2):=by
 have h1:=kSeq_c lems hyps tys hl hh ht hll hhl
 have h2:=rcheckP_c p (by omega)
 unfold InferR
 by_cases c1:seqE lems tys hyps=0
 case neg=>
  rw[if_pos c1]
  refine M.F Tryz.func47 ?_
  repeat'(first|refine M.o1 @h1 ?_|refine M.z1 4 ?_|refine M.cs ?_ ?_<;>intro h|refine M.gk ?_|fail)
  all_goals first
   |rfl
   |(exfalso;simp at h;exact c1 h)
   |trace_state
 rw[if_neg (by simp[c1])]
 rw[c1] at h1
 by_cases c2:p.err=0
 case neg=>
  rw[if_pos c2]
  refine M.F Tryz.func47 ?_
  repeat'(first|refine M.o2 @h1 @h2 ?_|refine M.z1 7 ?_|refine M.cs ?_ ?_<;>intro h|refine M.gk ?_|fail)
  all_goals first
   |rfl
   |(exfalso;simp at h;exact c2 h)
   |trace_state
 rw[if_neg (by simp[c2])]
 rw[c2] at h2
 obtain⟨ps,pm,_⟩:=(Pf.err_iff p).1 c2
 have hok:=seqE_ok c1
 have h3:PC E 83 [.agg [.s .fm lems,.s .ty tys,.s .fm hyps],.agg p.view] (tupI (infP p ⟨lems,tys,hyps⟩).1 (infP p ⟨lems,tys,hyps⟩).2.1 (infP p ⟨lems,tys,hyps⟩).2.2):=inferR_c p ps pm ⟨lems,tys,hyps⟩ hok
 have hro:=infP_ok p ps ⟨lems,tys,hyps⟩ hok
 generalize infP p ⟨lems,tys,hyps⟩=r at*
 obtain⟨f,u,e⟩:=r
 have hb:=resB hok hro
 have h4:=copyFm_c _ f (Nat.le_refl _) (by omega)
 by_cases he:e=0
 ·subst he
  refine M.F Tryz.func47 ?_
  refine M.w4 @h1 @h2 @h3 @h4 ?_
  rfl
 ·have e1:=hro.2 he
  simp only[noRes,Prod.mk.injEq] at e1
  obtain⟨rfl,rfl,_⟩:=e1
  refine M.F Tryz.func47 ?_
  repeat'(first|refine M.o3 @h1 @h2 @h3 ?_|refine M.z1 10 ?_|refine M.cs ?_ ?_<;>intro h|refine M.gk ?_|fail)
  all_goals first
   |rfl
   |(exfalso;simp at h;exact he h)
   |trace_state
theorem kAccepts_c(lems hyps:List Fm)(tys:List Ty)(p:Pf)(f:Fm)(hl:∀f∈lems,f.full<274877906944)(hh:∀f∈hyps,f.full<274877906944)(ht:(tys.map Ty.size).sum<549755813888)(hll:lems.length<549755813888)(hhl:hyps.length<549755813888)(hp:p.full<274877906944)(hf:f.full<274877906944):
 PC E 20 [.s .fm lems,.agg [.s .ty tys,.s .fm hyps],.agg p.view,.agg f.view] (.i (AcceptsR lems tys hyps p f)):=by
 have h1:=kInfer_c lems hyps tys p hl hh ht hll hhl hp
 have h2:=fTyped_c tys f (by omega) (by omega)
 have hbd:(InferR lems tys hyps p).1.full≤266240:=by
  unfold InferR
  by_cases c1:seqE lems tys hyps=0
  ·rw [if_neg (by simp[c1])]
   by_cases c2:p.err=0
   ·rw [if_neg (by simp[c2])]
    exact(resB (seqE_ok c1) (infP_ok p ((Pf.err_iff p).1 c2).1 ⟨lems,tys,hyps⟩ (seqE_ok c1))).1
   ·rw [if_pos c2];exact(by decide:noFm.full≤266240)
  ·rw [if_pos c1];exact(by decide:noFm.full≤266240)
 have h3:=rfMatch_c (InferR lems tys hyps p).1 f (by omega) hf
 unfold AcceptsR
 generalize InferR lems tys hyps p=r at*
 obtain⟨g,u,e⟩:=r
 by_cases he:e=0
 case neg=>
  rw[if_pos he]
  refine M.F Tryz.func20 ?_
  repeat'(first|refine M.o1 @h1 ?_|refine M.z1 4 ?_|refine M.cs ?_ ?_<;>intro h|refine M.gk ?_|fail)
  all_goals first
   |rfl
   |(exfalso;simp at h;exact he h)
   |trace_state
 subst he
 rw[if_neg (by simp)]
 by_cases c2:typedFC tys f=0
 case neg=>
  rw[if_pos c2]
  refine M.F Tryz.func20 ?_
  repeat'(first|refine M.o2 @h1 @h2 ?_|refine M.z1 7 ?_|refine M.cs ?_ ?_<;>intro h|refine M.gk ?_|fail)
  all_goals first
   |rfl
   |(exfalso;simp at h;exact c2 h)
   |trace_state
 rw[if_neg (by simp[c2])]
 rw[c2] at h2
 refine M.F Tryz.func20 ?_
 refine M.w3 @h1 @h2 @h3 ?_
 rfl
end Go.Ab
