/- A part of this seat's proofs. No conditions. -/
import Derived.Test.YtlikcaapgaalhaaGreatDoorEST24
namespace Go.Ab
open Go Go.Proofs
set_option maxRecDepth 100000
set_option maxHeartbeats 4000000
set_option linter.all false
theorem with_c(g:List Ty)(th:Ty)(hg:g.length<274877906944)(hl:th.size<274877906944):PC E 140 [.s .sz (g.map ofT),.s .ty [th]] (.s .sz ((g++[th]).map ofT)):=by
 have h1:=from_c [th] (by simp;omega)
 simp only[List.map_cons,List.map_nil] at h1
 refine M.F Tryz.func140 ?_
 refine M.w1 @h1 ?_
 simp[tupV,V.wk,V.wks]
theorem tnumber_c(g:List Ty)(t:Tm)(ht:t.err=0)(hf:t.full<137438953472)(hg:∀x∈g,x.err=0)(hl:g.length<68719476736):PC E 141 [.s .sz (g.map ofT),.agg t.view] (.i (tE g t)):=by
 have h1:PC E 215 [.s .sz (g.map ofT),.agg t.view] (.tup [.agg (ofT (t.inf g).1).view,.i (t.inf g).2]):=ctypeOf_c _ t g (Nat.le_refl _) (err_zero ht).1 hg (by omega)
 have h2:=is_c (ofT (t.inf g).1) 1
 have e:tE g t=if(t.inf g).2≠0 then(t.inf g).2 else if(t.inf g).1.kind≠1 then 7 else 0:=by
  have ty:typed g t=t.inf g:=by simp only[typed];rw[if_neg (by simp[ht])]
  unfold tE;rw[ty]
 have hh:PC E 189 [.s .sz (g.map ofT),.agg t.view,.i 1] (.i (tE g t)):=by
  rw[e]
  generalize t.inf g=r at*
  obtain⟨u,q⟩:=r
  simp only at h1 h2 ⊢
  by_cases hq:q=0
  ·subst hq
   by_cases hk:u.kind=1
   ·rw [show((ofT u).ty.kind==1)=true by simp[ofT,hk]] at h2
    refine M.F Tryz.func189 ?_
    refine M.w2 @h1 @h2 ?_
    simp[tupV,V.wk,V.wks,hk]
   ·rw [show((ofT u).ty.kind==1)=false by simp[ofT,hk]] at h2
    refine M.F Tryz.func189 ?_
    refine M.w2 @h1 @h2 ?_
    simp[tupV,V.wk,V.wks,hk]
  ·refine M.F Tryz.func189 ?_
   repeat'(first|refine M.w2 @h1 @h2 ?_|refine M.gs ?_ ?_<;>intro h|refine M.cs ?_ ?_<;>intro h|fail)
   all_goals first
    |(simp[tupV,V.wk,V.wks,hq];done)
    |(exfalso;simp_all;done)
 refine M.F Tryz.func141 ?_
 refine M.w1 @hh ?_
 simp[tupV,V.wk,V.wks,constV,Ty.view,Tm.view]
theorem cformula_c:∀(n:Nat) (f:Fm) (g:List Ty),f.full≤n→n<68719476736→f.shape=true→f.size≤4096→(∀x∈g,x.err=0)→g.length+n<68719476736→PC E 107 [.s .sz (g.map ofT),.agg f.view] (.i (f.tyE g)):=by
 intro n
 induction n with
 |zero=>intro f;intros;have:=f.full_pos;omega
 |succ n ih=>
 intro f g hsz hn hs hz hg hgl
 have hsz':=f.full_eq
 have hzz:=f.size_eq
 have hlen:=lsum_len Fm.full Fm.full_pos f.args
 have hlen2:=lsum_len Tm.full Tm.full_pos f.terms
 have he:=Fm.tyE_eq g f
 have sa:=fun x (hx:x∈f.args)=>fshape_args hs hx
 have st:=fun t (ht:t∈f.terms)=>fshape_terms hs ht
 have hkk:=fshape_kinds hs
 obtain⟨k,th,ts,xs⟩:=f
 simp only[Fm.kind_mk,Fm.ty_mk,Fm.terms_mk,Fm.args_mk] at*
 have args:∀(g':List Ty),(∀x∈g',x.err=0)→g'.length+n<68719476736→∀m (hm:m<xs.length),PC E 107 [.s .sz (g'.map ofT),.agg xs[m].view] (.i (xs[m].tyE g')):=fun g' h' hl' m hm=>by
  have h1:=lsum_mem Fm.full (List.getElem_mem hm)
  have h2:=lsum_mem Fm.size (List.getElem_mem hm)
  exact ih xs[m] g' (by omega) (by omega) (sa _ (List.getElem_mem hm)) (by omega) h' hl'
 have hw:=with_c g th (by omega) (by omega)
 rcases hkk with⟨rfl,rfl⟩|⟨hk,rfl⟩|⟨hk,rfl,hth⟩
 ·replace he:Fm.tyE g (Fm.mk 1 th ts [])=firstI (tE g) ts:=by
   rw[he];by_cases hx:firstI (tE g) ts=0<;>simp[hx,firstI]
  refine M.F Tryz.func107 ?_
  repeat'(first|refine M.w0 ?_|refine M.zb ?_|refine M.bl ?_|fail)
  refine K.sq (AW.block ?_)
  refine M.v0 ?_
  refine M.rp ts.length (fun m=>∀j (hj:j<ts.length),j<m→tE g ts[j]=0)
   (fun m=>([(0,.s .sz (g.map ofT)),(3,.ptr 0 0),(42,.s .tm ts),(43,.i ts.length),(44,.i m)],⟨1,[(0,.var (Fm.mk 1 th ts []).view)]⟩))
   (fun j hj h=>by omega) (M.W rh1) ?_ ?_
  ·intro m hm hP
   have h1:=lsum_mem Tm.full (List.getElem_mem hm)
   have h2:=lsum_mem Tm.size (List.getElem_mem hm)
   have hc:=tnumber_c g ts[m] ((Tm.err_iff _).2 ⟨st _ (List.getElem_mem hm),by omega⟩) (by omega) hg (by omega)
   repeat'(first|refine M.w1 @hc ?_|refine M.cs ?_ ?_<;>intro h|fail)
   ·have hx:tE g ts[m]≠0:=by simpa using h
    rw[he,firstI_at hm hP hx]
    rfl
   ·exact ⟨rfl,all_step (p:=fun x=>tE g x=0) hm hP (by simpa using h),(M.W rh1)⟩
  ·intro hP
   rw[he,firstI_none (f:=tE g) fun j hj _=>hP j hj hj]
   refine M.w0 ?_
   rfl
 ·have e0:ctxF g (Fm.mk k th [] xs)=g:=by simp only[ctxF,quantK,Fm.kind_mk];rcases hk with rfl|rfl<;>rfl
  rw[e0] at he
  replace he:Fm.tyE g (Fm.mk k th [] xs)=firstI (Fm.tyE g) xs:=by rw[he];simp[firstI]
  rcases hk with rfl|rfl
  ·refine M.F Tryz.func107 ?_
   repeat'(first|refine M.w0 ?_|refine M.zb ?_|refine M.bl ?_|fail)
   refine K.sq (AW.block ?_)
   refine M.v0 ?_
   refine M.rp xs.length (fun m=>∀j (hj:j<xs.length),j<m→xs[j].tyE (g)=0)
    (fun m=>([(0,.s .sz ((g).map ofT)),(3,.ptr 0 0),(28,.s .fm xs),(29,.i xs.length),(30,.i m)],⟨1,[(0,.var (Fm.mk 2 th [] xs).view)]⟩))
    (fun j hj h=>by omega) (M.W rh1) ?_ ?_
   ·intro m hm hP
    have hc:=args (g) hg (by omega) m hm
    repeat'(first|refine M.w1 @hc ?_|refine M.cs ?_ ?_<;>intro h|fail)
    ·have hx:xs[m].tyE (g)≠0:=by simpa using h
     rw[he,firstI_at hm hP hx]
     rfl
    ·exact ⟨rfl,all_step (p:=fun x=>Fm.tyE (g) x=0) hm hP (by simpa using h),(M.W rh1)⟩
   ·intro hP
    rw[he,firstI_none (f:=Fm.tyE (g)) fun j hj _=>hP j hj hj]
    refine M.w0 ?_
    rfl
  ·refine M.F Tryz.func107 ?_
   repeat'(first|refine M.w0 ?_|refine M.zb ?_|refine M.bl ?_|fail)
   refine K.sq (AW.block ?_)
   refine M.v0 ?_
   refine M.rp xs.length (fun m=>∀j (hj:j<xs.length),j<m→xs[j].tyE (g)=0)
    (fun m=>([(0,.s .sz ((g).map ofT)),(3,.ptr 0 0),(28,.s .fm xs),(29,.i xs.length),(30,.i m)],⟨1,[(0,.var (Fm.mk 3 th [] xs).view)]⟩))
    (fun j hj h=>by omega) (M.W rh1) ?_ ?_
   ·intro m hm hP
    have hc:=args (g) hg (by omega) m hm
    repeat'(first|refine M.w1 @hc ?_|refine M.cs ?_ ?_<;>intro h|fail)
    ·have hx:xs[m].tyE (g)≠0:=by simpa using h
     rw[he,firstI_at hm hP hx]
     rfl
    ·exact ⟨rfl,all_step (p:=fun x=>Fm.tyE (g) x=0) hm hP (by simpa using h),(M.W rh1)⟩
   ·intro hP
    rw[he,firstI_none (f:=Fm.tyE (g)) fun j hj _=>hP j hj hj]
    refine M.w0 ?_
    rfl
 ·have e0:ctxF g (Fm.mk k th [] xs)=g++[th]:=by simp only[ctxF,quantK,Fm.kind_mk,Fm.ty_mk];rcases hk with rfl|rfl|rfl|rfl<;>rfl
  rw[e0] at he
  replace he:Fm.tyE g (Fm.mk k th [] xs)=firstI (Fm.tyE (g++[th])) xs:=by rw[he];simp[firstI]
  have hg':∀x∈g++[th],x.err=0:=fun x hx=>by
   rcases List.mem_append.1 hx with h|h
   ·exact hg x h
   ·simp at h;subst h;exact hth
  rcases hk with rfl|rfl|rfl|rfl
  ·refine M.F Tryz.func107 ?_
   repeat'(first|refine M.w0 ?_|refine M.zb ?_|refine M.bl ?_|fail)
   refine K.sq (AW.block ?_)
   refine M.v1 @hw ?_
   refine M.rp xs.length (fun m=>∀j (hj:j<xs.length),j<m→xs[j].tyE (g++[th])=0)
    (fun m=>([(0,.s .sz ((g++[th]).map ofT)),(3,.ptr 0 0),(28,.s .fm xs),(29,.i xs.length),(30,.i m)],⟨1,[(0,.var (Fm.mk 4 th [] xs).view)]⟩))
    (fun j hj h=>by omega) (M.W rh1) ?_ ?_
   ·intro m hm hP
    have hc:=args (g++[th]) hg' (by simp;omega) m hm
    repeat'(first|refine M.w1 @hc ?_|refine M.cs ?_ ?_<;>intro h|fail)
    ·have hx:xs[m].tyE (g++[th])≠0:=by simpa using h
     rw[he,firstI_at hm hP hx]
     rfl
    ·exact ⟨rfl,all_step (p:=fun x=>Fm.tyE (g++[th]) x=0) hm hP (by simpa using h),(M.W rh1)⟩
   ·intro hP
    rw[he,firstI_none (f:=Fm.tyE (g++[th])) fun j hj _=>hP j hj hj]
    refine M.w0 ?_
    rfl
  ·refine M.F Tryz.func107 ?_
   repeat'(first|refine M.w0 ?_|refine M.zb ?_|refine M.bl ?_|fail)
   refine K.sq (AW.block ?_)
   refine M.v1 @hw ?_
   refine M.rp xs.length (fun m=>∀j (hj:j<xs.length),j<m→xs[j].tyE (g++[th])=0)
    (fun m=>([(0,.s .sz ((g++[th]).map ofT)),(3,.ptr 0 0),(28,.s .fm xs),(29,.i xs.length),(30,.i m)],⟨1,[(0,.var (Fm.mk 5 th [] xs).view)]⟩))
    (fun j hj h=>by omega) (M.W rh1) ?_ ?_
   ·intro m hm hP
    have hc:=args (g++[th]) hg' (by simp;omega) m hm
    repeat'(first|refine M.w1 @hc ?_|refine M.cs ?_ ?_<;>intro h|fail)
    ·have hx:xs[m].tyE (g++[th])≠0:=by simpa using h
     rw[he,firstI_at hm hP hx]
     rfl
    ·exact ⟨rfl,all_step (p:=fun x=>Fm.tyE (g++[th]) x=0) hm hP (by simpa using h),(M.W rh1)⟩
   ·intro hP
    rw[he,firstI_none (f:=Fm.tyE (g++[th])) fun j hj _=>hP j hj hj]
    refine M.w0 ?_
    rfl
  ·refine M.F Tryz.func107 ?_
   repeat'(first|refine M.w0 ?_|refine M.zb ?_|refine M.bl ?_|fail)
   refine K.sq (AW.block ?_)
   refine M.v1 @hw ?_
   refine M.rp xs.length (fun m=>∀j (hj:j<xs.length),j<m→xs[j].tyE (g++[th])=0)
    (fun m=>([(0,.s .sz ((g++[th]).map ofT)),(3,.ptr 0 0),(28,.s .fm xs),(29,.i xs.length),(30,.i m)],⟨1,[(0,.var (Fm.mk 6 th [] xs).view)]⟩))
    (fun j hj h=>by omega) (M.W rh1) ?_ ?_
   ·intro m hm hP
    have hc:=args (g++[th]) hg' (by simp;omega) m hm
    repeat'(first|refine M.w1 @hc ?_|refine M.cs ?_ ?_<;>intro h|fail)
    ·have hx:xs[m].tyE (g++[th])≠0:=by simpa using h
     rw[he,firstI_at hm hP hx]
     rfl
    ·exact ⟨rfl,all_step (p:=fun x=>Fm.tyE (g++[th]) x=0) hm hP (by simpa using h),(M.W rh1)⟩
   ·intro hP
    rw[he,firstI_none (f:=Fm.tyE (g++[th])) fun j hj _=>hP j hj hj]
    refine M.w0 ?_
    rfl
  ·refine M.F Tryz.func107 ?_
   repeat'(first|refine M.w0 ?_|refine M.zb ?_|refine M.bl ?_|fail)
   refine K.sq (AW.block ?_)
   refine M.v1 @hw ?_
   refine M.rp xs.length (fun m=>∀j (hj:j<xs.length),j<m→xs[j].tyE (g++[th])=0)
    (fun m=>([(0,.s .sz ((g++[th]).map ofT)),(3,.ptr 0 0),(28,.s .fm xs),(29,.i xs.length),(30,.i m)],⟨1,[(0,.var (Fm.mk 7 th [] xs).view)]⟩))
    (fun j hj h=>by omega) (M.W rh1) ?_ ?_
   ·intro m hm hP
    have hc:=args (g++[th]) hg' (by simp;omega) m hm
    repeat'(first|refine M.w1 @hc ?_|refine M.cs ?_ ?_<;>intro h|fail)
    ·have hx:xs[m].tyE (g++[th])≠0:=by simpa using h
     rw[he,firstI_at hm hP hx]
     rfl
    ·exact ⟨rfl,all_step (p:=fun x=>Fm.tyE (g++[th]) x=0) hm hP (by simpa using h),(M.W rh1)⟩
   ·intro hP
    rw[he,firstI_none (f:=Fm.tyE (g++[th])) fun j hj _=>hP j hj hj]
    refine M.w0 ?_
    rfl
theorem fmTyped_c(g:List Ty)(f:Fm)(hf:f.full<34359738368)(hg:ctxErr g=0)(hg':∀x∈g,x.err=0)(hl:g.length<4096)(hs:(g.map Ty.size).sum<137438953472)(he:f.err=0):PC E 71 [.s .ty g,.agg f.view] (.i (f.tyE g)):=by
 have h1:=context2_c g (by omega)
 have h2:=fcheck_c f (by omega)
 have h3:=from_c g (by omega)
 have h4:=(Fm.err_iff f).1 he
 have h5:=cformula_c _ f g (Nat.le_refl _) (by omega) h4.1 h4.2 hg' (by omega)
 rw[hg] at h1
 rw[he] at h2
 refine M.F Tryz.func71 ?_
 refine M.w4 @h1 @h2 @h3 @h5 ?_
 simp[tupV,V.wk,V.wks,constV,Ty.view,Tm.view]
theorem fmTypedG_c(g:List Ty)(f:Fm)(hf:f.full<34359738368)(hs:(g.map Ty.size).sum<137438953472):PC E 71 [.s .ty g,.agg f.view] (.i (typedFC g f)):=by
 by_cases hg:ctxErr g=0
 case neg=>
  have h1:=context2_c g (by omega)
  unfold typedFC
  rw[if_pos hg]
  refine M.F Tryz.func71 ?_
  repeat'(first|refine M.o1 @h1 ?_|refine M.z1 4 ?_|refine M.cs ?_ ?_<;>intro h|refine M.gk ?_|fail)
  all_goals first
   |rfl
   |(exfalso;simp at h;exact hg h)
   |trace_state
 by_cases he:f.err=0
 case neg=>
  have h1:=context2_c g (by omega)
  have h2:=fcheck_c f (by omega)
  have e:typedFC g f=f.err:=by unfold typedFC;rw[if_neg (by simp[hg])];unfold typedF;rw[if_pos he]
  rw[e]
  rw[hg] at h1
  refine M.F Tryz.func71 ?_
  repeat'(first|refine M.o2 @h1 @h2 ?_|refine M.z1 7 ?_|refine M.cs ?_ ?_<;>intro h|refine M.gk ?_|fail)
  all_goals first
   |rfl
   |(exfalso;simp at h;exact he h)
   |trace_state
 obtain⟨g1,g2⟩:=ctxErr_all hg
 have h:=fmTyped_c g f hf hg g2 (by omega) hs he
 have e:typedFC g f=f.tyE g:=by unfold typedFC;rw[if_neg (by simp[hg])];unfold typedF;rw[if_neg (by simp[he])]
 rw[e]
 exact h
theorem kSeqP_c(lems hyps:List Fm)(tys:List Ty)(hl:∀f∈lems,f.full<30000000000)(hh:∀f∈hyps,f.full<30000000000)(ht:(tys.map Ty.size).sum<100000000000)(hll:lems.length<549755813888)(hhl:hyps.length<549755813888):
 PC E 70 [.s .fm lems,.agg [.s .ty tys,.s .fm hyps]] (.i (seqE lems tys hyps)):=by
 have h1:=context2_c tys (by omega)
 unfold seqE
 by_cases c1:lems.length>32
 ·rw [if_pos c1]
  refine M.F Tryz.func70 ?_
  repeat'(first|refine M.o0 ?_|refine M.z1 3 ?_|refine M.cs ?_ ?_<;>intro h|refine M.gk ?_|fail)
  all_goals first
   |rfl
   |(exfalso;simp at h;omega)
   |trace_state
 rw[if_neg c1]
 refine M.F Tryz.func70 ?_
 repeat'(first|refine M.w0 ?_|refine M.cs ?_ ?_<;>intro h|fail)
 ·exfalso;simp at h;omega
 refine M.rp lems.length (fun m=>∀j (hj:j<lems.length),j<m→typedFC [] lems[j]=0)
  (fun m=>([(3,.ptr 0 0),(15,.s .fm lems),(16,.i lems.length),(17,.i m)],⟨1,[(0,.var [.s .ty tys,.s .fm hyps])]⟩))
  (fun j hj h=>by omega) (M.W rh1) ?_ ?_
 ·intro m hm hP
  have hc:=fmTypedG_c [] lems[m] (by have:=hl _ (List.getElem_mem hm);omega) (by simp)
  by_cases hx:typedFC [] lems[m]=0
  ·rw [hx] at hc
   refine M.w1 @hc ?_
   exact⟨rfl,all_step (p:=fun f=>typedFC [] f=0) hm hP hx,(M.W rh1)⟩
  ·have e:=firstI_at hm hP hx
   rw[e,if_pos hx]
   repeat'(first|refine M.w1 @hc ?_|refine M.cs ?_ ?_<;>intro h|fail)
   all_goals first
    |rfl
    |(exfalso;rename_i h5;simp at h5;exact hx h5)
    |(exfalso;simp at h;exact hx h)
    |trace_state
 ·intro hP
  rw[firstI_none fun j hj _=>hP j hj hj,if_neg (by simp)]
  by_cases c2:ctxErr tys=0
  case neg=>
   rw[if_pos c2]
   repeat'(first|refine M.o1 @h1 ?_|refine M.z1 13 ?_|refine M.cs ?_ ?_<;>intro h|refine M.gk ?_|fail)
   all_goals first
    |rfl
    |(exfalso;simp at h;exact c2 h)
    |trace_state
  rw[if_neg (by simp[c2])]
  rw[c2] at h1
  by_cases c3:hyps.length>16
  ·rw [if_pos c3]
   repeat'(first|refine M.o1 @h1 ?_|refine M.z1 15 ?_|refine M.cs ?_ ?_<;>intro h|refine M.gk ?_|fail)
   all_goals first
    |rfl
    |(exfalso;simp at h;omega)
    |trace_state
  rw[if_neg c3]
  repeat'(first|refine M.w1 @h1 ?_|refine M.cs ?_ ?_<;>intro h|fail)
  ·exfalso;simp at h;omega
  refine M.rp hyps.length (fun m=>∀j (hj:j<hyps.length),j<m→typedFC tys hyps[j]=0)
   (fun m=>([(3,.ptr 0 0),(38,.s .fm hyps),(39,.i hyps.length),(40,.i m)],⟨1,[(0,.var [.s .ty tys,.s .fm hyps])]⟩))
   (fun j hj h=>by omega) (M.W rh1) ?_ ?_
  ·intro m hm hP2
   have hc:=fmTypedG_c tys hyps[m] (by have:=hh _ (List.getElem_mem hm);omega) (by omega)
   by_cases hx:typedFC tys hyps[m]=0
   ·rw [hx] at hc
    refine M.w1 @hc ?_
    exact⟨rfl,all_step (p:=fun f=>typedFC tys f=0) hm hP2 hx,(M.W rh1)⟩
   ·have e:=firstI_at hm hP2 hx
    rw[e]
    repeat'(first|refine M.w1 @hc ?_|refine M.cs ?_ ?_<;>intro h|fail)
    all_goals first
     |rfl
     |(exfalso;rename_i h5;simp at h5;exact hx h5)
     |(exfalso;simp at h;exact hx h)
     |trace_state
  ·intro hP2
   rw[firstI_none fun j hj _=>hP2 j hj hj]
   refine M.w0 ?_
   rfl
theorem goalCheck_c(lems hyps:List Fm)(tys:List Ty)(f:Fm)(hl:∀f∈lems,f.full<30000000000)(hh:∀f∈hyps,f.full<30000000000)(ht:(tys.map Ty.size).sum<100000000000)(hll:lems.length<549755813888)(hhl:hyps.length<549755813888)(hf:f.full<30000000000):
 PC E 40 [.s .fm lems,.agg [.s .ty tys,.s .fm hyps,.i f.kind,.i f.ty.kind,.s .ty f.ty.args,.s .tm f.terms,.s .fm f.args]] (.i (if seqE lems tys hyps≠0 then seqE lems tys hyps else typedFC tys f)):=by
 have h1:=kSeqP_c lems hyps tys hl hh ht hll hhl
 have h2:=fmTypedG_c tys f (by omega) (by omega)
 generalize seqE lems tys hyps=e at*
 by_cases he:e=0
 ·subst he
  rw[if_neg (by simp)]
  refine M.F Tryz.func40 ?_
  refine M.w2 @h1 @h2 ?_
  all_goals first
   |rfl
   |trace_state
 ·rw [if_pos he]
  refine M.F Tryz.func40 ?_
  repeat'(first|refine M.o1 @h1 ?_|refine M.z1 4 ?_|refine M.cs ?_ ?_<;>intro h|refine M.gk ?_|fail)
  all_goals first
   |rfl
   |(exfalso;simp at h;exact he h)
   |trace_state
theorem rgoalCheck_c(lems hyps:List Fm)(tys:List Ty)(f:Fm)(hl:∀f∈lems,f.full<30000000000)(hh:∀f∈hyps,f.full<30000000000)(ht:(tys.map Ty.size).sum<100000000000)(hll:lems.length<549755813888)(hhl:hyps.length<549755813888)(hf:f.full<30000000000):
 PC E 76 [.s .fm lems,.agg [.s .ty tys,.s .fm hyps,.i f.kind,.i f.ty.kind,.s .ty f.ty.args,.s .tm f.terms,.s .fm f.args]] (.i (if seqE lems tys hyps≠0 then seqE lems tys hyps else typedFC tys f)):=by
 have h1:=kSeq_c lems hyps tys (fun f h=>by have:=hl f h;omega) (fun f h=>by have:=hh f h;omega) (by omega) hll hhl
 have h2:=fTyped_c tys f (by omega) (by omega)
 generalize seqE lems tys hyps=e at*
 by_cases he:e=0
 ·subst he
  rw[if_neg (by simp)]
  refine M.F Tryz.func76 ?_
  refine M.w2 @h1 @h2 ?_
  all_goals first
   |rfl
   |trace_state
 ·rw [if_pos he]
  refine M.F Tryz.func76 ?_
  repeat'(first|refine M.o1 @h1 ?_|refine M.z1 4 ?_|refine M.cs ?_ ?_<;>intro h|refine M.gk ?_|fail)
  all_goals first
   |rfl
   |(exfalso;simp at h;exact he h)
   |trace_state
theorem copyPf_c:∀(b:Nat) (p:Pf),p.full≤b→b<549755813888→PC E 124 [.agg p.view] (.agg p.view):=by
 intro b
 induction b with
 |zero=>intro f h;have:=f.full_pos;omega
 |succ b ih=>
 intro p hsz hb
 have hsz':=p.full_eq
 have hlen:=lsum_len Pf.full Pf.full_pos p.args
 have hlen1:=lsum_len Fm.full Fm.full_pos p.forms
 have hlen2:=lsum_len Tm.full Tm.full_pos p.terms
 have hty:=copyTy_c _ p.ty (Nat.le_refl _) (by omega)
 refine M.F Tryz.func124 ?_
 refine M.w1 @hty ?_
 refine M.rt p.terms.length
  (fun m=>([(1,.ptr 0 0),(2,.ptr 1 0),(3,.ptr 2 0),(19,.s .tm p.terms),(20,.i p.terms.length),(21,.i m)],⟨4,[(0,.var p.view),(1,.var [.i 0,.i 0,.i 0,.slice .nil (.t .ty []),.slice .nil (.t .tm []),.slice .nil (.t .fm []),.slice .nil (.t .pf [])]),(2,.var [.i p.kind,.i p.index,.i p.ty.kind,.s .ty p.ty.args,.slice (.own 3) (.t .tm (p.terms.take m)),.slice .nil (.t .fm []),.slice .nil (.t .pf [])]),(3,.row)]⟩))
  (M.W rn3) ?_ ?_
 ·intro m hm _
  have hs2:=lsum_mem Tm.full (List.getElem_mem hm)
  repeat'(first|refine M.w0 ?_|refine M.c2 (copyTm_c _ _ (Nat.le_refl _) ?_) ?_|exact M.lt|fail)
  exact⟨rfl,trivial,(M.W [some 0,some 1,some 2,some 5] (he:=(by(repeat'(first|exact trivial|exact Or.inr ⟨_,U,rfl⟩|refine And.intro ?_ ?_|refine⟨_,U,_,U,_,U,?_⟩|exact VLe.refl _|exact VLe.of_eq (by simp[Sto.upd,List.take_append_getElem])));done)))⟩
 ·intro _
  simp only[List.take_length]
  refine M.w0 ?_
  refine M.rt p.forms.length
   (fun m=>([(1,.ptr 0 0),(2,.ptr 1 0),(3,.ptr 2 0),(34,.s .fm p.forms),(35,.i p.forms.length),(36,.i m)],⟨5,[(0,.var p.view),(1,.var [.i 0,.i 0,.i 0,.slice .nil (.t .ty []),.slice .nil (.t .tm []),.slice .nil (.t .fm []),.slice .nil (.t .pf [])]),(2,.var [.i p.kind,.i p.index,.i p.ty.kind,.s .ty p.ty.args,.slice (.own 3) (.t .tm p.terms),.slice (.own 4) (.t .fm (p.forms.take m)),.slice .nil (.t .pf [])]),(3,.row),(4,.row)]⟩))
   (M.W rn4) ?_ ?_
  ·intro m hm _
   have hs2:=lsum_mem Fm.full (List.getElem_mem hm)
   repeat'(first|refine M.w0 ?_|refine M.c2 (copyFm_c _ _ (Nat.le_refl _) ?_) ?_|exact M.lt|fail)
   exact⟨rfl,trivial,(M.W [some 0,some 1,some 2,some 3,some 6] (he:=(by(repeat'(first|exact trivial|exact Or.inr ⟨_,U,rfl⟩|refine And.intro ?_ ?_|refine⟨_,U,_,U,_,U,?_⟩|exact VLe.refl _|exact VLe.of_eq (by simp[Sto.upd,List.take_append_getElem])));done)))⟩
  ·intro _
   simp only[List.take_length]
   refine M.w0 ?_
   refine M.rt p.args.length
    (fun m=>([(1,.ptr 0 0),(2,.ptr 1 0),(3,.ptr 2 0),(49,.s .pf p.args),(50,.i p.args.length),(51,.i m)],⟨6,[(0,.var p.view),(1,.var [.i 0,.i 0,.i 0,.slice .nil (.t .ty []),.slice .nil (.t .tm []),.slice .nil (.t .fm []),.slice .nil (.t .pf [])]),(2,.var [.i p.kind,.i p.index,.i p.ty.kind,.s .ty p.ty.args,.slice (.own 3) (.t .tm p.terms),.slice (.own 4) (.t .fm p.forms),.slice (.own 5) (.t .pf (p.args.take m))]),(3,.row),(4,.row),(5,.row)]⟩))
    (M.W rn5) ?_ ?_
   ·intro m hm _
    have hs2:=lsum_mem Pf.full (List.getElem_mem hm)
    repeat'(first|refine M.w0 ?_|refine M.c2 (ih _ ?_ ?_) ?_|exact M.le|exact M.lt|fail)
    exact⟨rfl,trivial,(M.W [some 0,some 1,some 2,some 3,some 4,some 7] (he:=(by(repeat'(first|exact trivial|exact Or.inr ⟨_,U,rfl⟩|refine And.intro ?_ ?_|refine⟨_,U,_,U,_,U,?_⟩|exact VLe.refl _|exact VLe.of_eq (by simp[Sto.upd,List.take_append_getElem])));done)))⟩
   ·intro _
    simp only[List.take_length]
    refine M.w0 ?_
    rfl
theorem refP_c(k:Int)(l:List Pf)(hl:l.length<1000000)(h:∀p∈l,p.full<500000000000):PC E 157 [.i k,.s .pf l] (.agg (Pf.mk k 0 (.mk 0 []) [] [] l).view):=by
 refine M.F Tryz.func157 ?_
 refine M.w0 ?_
 refine M.rt l.length
  (fun m=>([(4,.ptr 0 0),(5,.ptr 1 0),(10,.s .pf l),(11,.i l.length),(12,.i m)],⟨3,[(0,.var [.i 0,.i 0,.i 0,.slice .nil (.t .ty []),.slice .nil (.t .tm []),.slice .nil (.t .fm []),.slice .nil (.t .pf [])]),(1,.var [.i k,.i 0,.i 0,.slice .nil (.t .ty []),.slice .nil (.t .tm []),.slice .nil (.t .fm []),.slice (.own 2) (.t .pf (l.take m))]),(2,.row)]⟩))
  (M.W rn2) ?_ ?_
 ·intro m hm _
  have hc:=copyPf_c _ l[m] (Nat.le_refl _) (by have:=h _ (List.getElem_mem hm);omega)
  refine M.w1 @hc ?_
  exact⟨rfl,trivial,(M.W [some 0,some 1,some 4] (he:=(by(repeat'(first|exact trivial|exact Or.inr ⟨_,U,rfl⟩|refine And.intro ?_ ?_|refine⟨_,U,_,U,_,U,?_⟩|exact VLe.refl _|exact VLe.of_eq (by simp[Sto.upd,List.take_append_getElem])));done)))⟩
 ·intro _
  simp only[List.take_length]
  refine M.w0 ?_
  rfl
theorem refAt_c(k:Int)(t:Tm)(p:Pf)(ht:t.full<500000000000)(hp:p.full<500000000000):PC E 164 [.i k,.agg t.view,.agg p.view] (.agg (Pf.mk k 0 (.mk 0 []) [t] [] [p]).view):=by
 have h1:=refP_c k [p] (by simp) (by simp;omega)
 have h2:=copyTm_c _ t (Nat.le_refl _) (by omega)
 refine M.F Tryz.func164 ?_
 refine M.w2 @h1 @h2 ?_
 rfl
theorem refImp_c(f:Fm)(p:Pf)(hf:f.full<500000000000)(hp:p.full<500000000000):PC E 158 [.agg f.view,.agg p.view] (.agg (Pf.mk 6 0 (.mk 0 []) [] [f] [p]).view):=by
 have h1:=refP_c 6 [p] (by simp) (by simp;omega)
 have h2:=copyFm_c _ f (Nat.le_refl _) (by omega)
 refine M.F Tryz.func158 ?_
 refine M.w2 @h1 @h2 ?_
 rfl
theorem g16hyp_c(tys:List Ty)(hyps:List Fm)(i:Nat)(f:Fm)(hi:i<hyps.length)(hh:hyps.length<1000000)(hf:hyps.getD (hyps.length-1-i) noFm=f):
 PC E 152 [.agg [.s .ty tys,.s .fm hyps],.i i] (.tup [.agg f.view,.i 0]):=by
 have hlt:hyps.length-1-i<hyps.length:=by omega
 obtain rfl:hyps[hyps.length-1-i]=f:=by rw[←hf];simp[List.getD,hlt]
 refine M.F Tryz.func152 ?_
 repeat'(first|refine M.w0 ?_|refine M.cs ?_ ?_<;>intro h|fail)
 all_goals first
  |(exfalso;simp at h;omega)
  |skip
 refine L.ixt (hyps.length-1-i) rfl rfl rfl rfl (by omega) rfl rfl hlt ?_
 refine M.w0 ?_
 rfl
theorem g16typed_c(tys:List Ty)(hyps:List Fm)(t:Tm)(s:Ty)(ht:t.full<137438953472)(hg:(tys.map Ty.size).sum<1099511627776)(hs:s.size<1000000)(h1:typeOf tys t=(s,0)):
 PC E 153 [.agg [.s .ty tys,.s .fm hyps],.agg t.view,.agg s.view] (.i 0):=by
 have h:=typeOf_c tys t ht hg
 rw[h1] at h
 have h2:=sameTy_r s (by omega)
 refine M.F Tryz.func153 ?_
 refine M.w2 @h @h2 ?_
 all_goals first
  |rfl
  |(exfalso;simp at h;done)
  |(exfalso;simp_all;done)
  |trace_state
theorem g16valid_c(i:Int)(s:Tm)(hi:0≤i)(hs:s.full<1000000000)(he:s.err=0):
 PC E 120 [.agg [.i 13,.i i,.s .tm [s],.s .fm []]] (.i 0):=by
 have h1:=checkTmR_c s (by omega)
 rw[he] at h1
 refine M.F Tryz.func120 ?_
 repeat'(first|refine M.w0 ?_|refine M.gs ?_ ?_<;>intro h|refine M.bl ?_|fail)
 all_goals first
  |(exfalso;simp at h;omega)
  |(exfalso;simp_all;omega)
  |skip
 refine M.rt 1
  (fun m=>([(1,.ptr 0 0),(64,.s .tm [s]),(65,.i 1),(66,.i m)],⟨1,[(0,.var [.i 13,.i i,.s .tm [s],.s .fm []])]⟩))
  (M.W rh1) ?_ ?_
 ·intro m hm _
  obtain rfl:m=0:=by omega
  refine M.w1 @h1 ?_
  all_goals first
   |exact⟨rfl,trivial,(M.W rh1)⟩
   |(exfalso;simp at h;done)
   |trace_state
 ·intro _
  refine M.w0 ?_
  refine M.rt 0
   (fun m=>([(77,.s .fm []),(78,.i 0),(79,.i m)],⟨1,[(0,.var [.i 13,.i i,.s .tm [s],.s .fm []])]⟩))
   (M.W rh1) ?_ ?_
  ·intro m hm _
   omega
  ·intro _
   refine M.w0 ?_
   rfl
theorem g16validH_c(i:Int)(hi:0≤i):
 PC E 120 [.agg [.i 1,.i i,.s .tm [],.s .fm []]] (.i 0):=by
 refine M.F Tryz.func120 ?_
 repeat'(first|refine M.w0 ?_|refine M.gs ?_ ?_<;>intro h|refine M.bl ?_|fail)
 all_goals first
  |(exfalso;simp at h;omega)
  |(exfalso;simp_all;omega)
  |skip
 refine M.rt 0
  (fun m=>([(1,.ptr 0 0),(64,.s .tm []),(65,.i 0),(66,.i m)],⟨1,[(0,.var [.i 1,.i i,.s .tm [],.s .fm []])]⟩))
  (M.W rh1) ?_ ?_
 ·intro m hm _
  omega
 ·intro _
  refine M.w0 ?_
  refine M.rt 0
   (fun m=>([(77,.s .fm []),(78,.i 0),(79,.i m)],⟨1,[(0,.var [.i 1,.i i,.s .tm [],.s .fm []])]⟩))
   (M.W rh1) ?_ ?_
  ·intro m hm _
   omega
  ·intro _
   refine M.w0 ?_
   rfl
theorem g16below_c(tys:List Ty)(hyps:List Fm)(ht:∀x∈tys,x.size<1000000)(htl:tys.length≤100)(hhl:hyps.length<1000)(hh:∀f∈hyps,f.err=0∧f.okT tys):
 PC E 79 [.agg [.s .ty tys,.s .fm hyps],.s .ty []] (.agg [.s .ty tys,.s .fm hyps]):=by
 refine M.F Tryz.func79 ?_
 repeat'(first|((with_reducible refine D.nil ?_);refine AX.nilL ?_)|((with_reducible refine D.load ?_);refine L.ldb U U U U U U ?_)|((with_reducible refine D.move ?_);refine L.mv U U U ?_)|((with_reducible refine D.fieldAddr ?_);refine L.fab U U U U U ?_)|((with_reducible refine D.call ?_);first|refine L.apE U U U U U U U ?_|refine L.lnt U U U U ?_)|((with_reducible refine D.box ?_);refine L.bx U U U U ?_)|((with_reducible refine D.alloc ?_);refine L.al U U U ?_)|((with_reducible refine D.store ?_);refine L.st U U U U U U U U U ?_)|((with_reducible refine D.ax ?_);first|refine L.bd U U U U U ?_|refine L.s3 U U U U U U ?_)|((with_reducible refine D.aw ?_);first|refine K.sq (AW.regL ?_)|refine K.sq (K.sq ?_)|refine AW.regL ?_)|with_reducible refine K.tN ?_)
 refine M.rt tys.length
  (fun m=>([(1,.s .ty []),(2,.ptr 0 0),(4,.ptr 1 0),(5,.ptr 2 0),(21,.slice .full (.t .ty tys)),(22,.i tys.length),(23,.i m)],⟨4,[(0,.var [.s .ty tys,.s .fm hyps]),(1,.var [.slice .nil (.t .ty []),.slice .nil (.t .fm [])]),(2,.var [.slice (.own 3) (.t .ty (tys.take m)),.slice .nil (.t .fm [])]),(3,.row)]⟩))
  (M.W rn3) ?_ ?_
 ·intro m hm _
  have hs2:=ht _ (List.getElem_mem hm)
  repeat'(first|refine M.w0 ?_|refine M.c2 (copyTy_c _ _ (Nat.le_refl _) ?_) ?_|exact M.lt|fail)
  exact⟨rfl,trivial,(M.W [some 0,some 1,some 2,some 5] (he:=(by(repeat'(first|exact trivial|exact Or.inr ⟨_,U,rfl⟩|refine And.intro ?_ ?_|refine⟨_,U,_,U,_,U,?_⟩|exact VLe.refl _|exact VLe.of_eq (by simp[Sto.upd,List.take_append_getElem])));done)))⟩
 ·intro _
  simp only[List.take_length]
  refine M.w0 ?_
  refine M.rt hyps.length
   (fun m=>([(1,.s .ty []),(2,.ptr 0 0),(4,.ptr 1 0),(5,.ptr 2 0),(36,.s .fm hyps),(37,.i hyps.length),(38,.i m)],⟨5,[(0,.var [.s .ty tys,.s .fm hyps]),(1,.var [.slice .nil (.t .ty []),.slice .nil (.t .fm [])]),(2,.var [.slice (.own 3) (.t .ty tys),.slice (.own 4) (.t .fm (hyps.take m))]),(3,.row),(4,.row)]⟩))
   (M.W rn4) ?_ ?_
  ·intro m hm _
   obtain⟨h1,h2⟩:=hh _ (List.getElem_mem hm)
   have h3:=ferr_full h1
   have h4:=((Fm.err_iff _).1 h1).1
   have h5:=kup_c h2 h4 (by have:=((Fm.err_iff _).1 h1).2;omega) htl 0 0 (by omega) (by omega)
   rw[flft_zero h4] at h5
   have h6:=copyFm_c _ hyps[m] (Nat.le_refl _) (by omega)
   refine M.w2 @h5 @h6 ?_
   exact⟨rfl,trivial,(M.W [some 0,some 1,some 2,some 3,some 6] (he:=(by(repeat'(first|exact trivial|exact Or.inr ⟨_,U,rfl⟩|refine And.intro ?_ ?_|refine⟨_,U,_,U,_,U,?_⟩|exact VLe.refl _|exact VLe.of_eq (by simp[Sto.upd,List.take_append_getElem])));done)))⟩
  ·intro _
   simp only[List.take_length]
   refine M.w0 ?_
   rfl
def g16J(tys:List Ty)(hyps:List Fm)(f b:Fm):Bool→AF×Sto
 |false=>([(3,.ptr 0 0),(4,.ptr 1 0),(6,.ptr 2 0),(9,.s .fm [b]),(10,.i 1),(11,.i 0)],⟨3,[(0,.var [.s .ty tys,.s .fm hyps]),(1,.var f.view),(2,.var [.slice .nil (.t .ty []),.slice .nil (.t .fm []),.i 0,.i 0,.slice .nil (.t .ty []),.slice .nil (.t .tm []),.slice .nil (.t .fm [])])]⟩)
 |true=>([(3,.ptr 0 0),(4,.ptr 1 0),(6,.ptr 2 0),(9,.s .fm [b]),(10,.i 1),(11,.i 1)],⟨4,[(0,.var [.s .ty tys,.slice (.own 3) (.t .fm (hyps++[b]))]),(1,.var f.view),(2,.var [.slice .nil (.t .ty []),.slice .nil (.t .fm []),.i 0,.i 0,.slice .nil (.t .ty []),.slice .nil (.t .tm []),.slice .nil (.t .fm [])]),(3,.row)]⟩)
theorem g16goal1_c(tys:List Ty)(hyps:List Fm)(f b:Fm)(hf:f.err=0)(hb:b.err=0)(hl:hyps.length<1000):
 PC E 78 [.agg [.s .ty tys,.s .fm hyps],.agg f.view,.s .fm [b]] (.agg (Gl.view ⟨⟨tys,hyps++[b]⟩,f⟩)):=by
 have h3:=ferr_full hf
 have h4:=ferr_full hb
 have h6:=copyFm_c _ f (Nat.le_refl _) (by omega)
 have h7:=copyFm_c _ b (Nat.le_refl _) (by omega)
 refine M.F Tryz.func78 ?_
 repeat'(first|refine M.o0 ?_|refine M.z1 2 ?_|refine M.gk ?_|fail)
 refine AW.block (AW.loop (ι:=Bool) (fun s=>g16J tys hyps f b s) (fun s=>if s=true then 0 else 1) false ?_ ?_)
 ·show Weak _ _ _ _ _ (g16J tys hyps f b false).1 (g16J tys hyps f b false).2
  simp only[g16J]
  exact(M.W rh3)
 rintro(_|_)
 ·show AW _ _ _ _ (g16J tys hyps f b false).1 (g16J tys hyps f b false).2 _
  simp only[g16J]
  repeat'(first|refine M.w1 @h7 ?_|refine M.zb ?_|fail)
  refine⟨true,by decide,?_⟩
  show Weak _ _ _ _ _ (g16J tys hyps f b true).1 (g16J tys hyps f b true).2
  simp only[g16J]
  exact(M.W [some 0,some 1,some 2,some 4])
 ·show AW _ _ _ _ (g16J tys hyps f b true).1 (g16J tys hyps f b true).2 _
  simp only[g16J]
  refine M.w1 @h6 ?_
  rfl
end Go.Ab
