/- A part of this seat's proofs. No conditions. -/
import Derived.Test.YtlikcaapgaalhaaGreatDoorEST3
namespace Go.Ab
open Go Go.Proofs
set_option maxRecDepth 100000
set_option maxHeartbeats 4000000
set_option linter.all false
section
variable {g:List Ty} {f:Fm} {hyps:List Fm} {i:Nat} {r:List Tm} {b:Fm} {s:Tm}
theorem UW.bds(h:UW g f hyps i r b):(∀x∈g,x.size<1000000)∧g.length≤100∧(g.map Ty.size).sum<100000∧hyps.length≤16∧(∀x∈hyps,x.full≤266240)∧f.full≤266240:=by
 have h1:=ctxErr_all h.ch.hg
 have h2:=h.ch.hl
 have h3:∀x∈g,x.size≤64:=fun x hx=>((Ty.err_iff x).1 (h1.2 x hx)).2
 refine⟨fun x hx=>by have:=h3 x hx;omega,by omega,?_,by have:=h.len;omega,fun x hx=>ferr_full (h.hy x hx).1,ferr_full h.goal.1⟩
 have:∀l:List Ty,(∀x∈l,x.size≤64)→(l.map Ty.size).sum≤64*l.length:=by
  intro l
  induction l with
  |nil=>intro _;simp
  |cons x l ih=>intro hl;have:=ih fun y hy=>hl y (by simp[hy]);have:=hl x (by simp);simp only[List.map_cons,List.sum_cons,List.length_cons];omega
 have:=this g h3
 omega
theorem UW.sfull(h:UW g f hyps i (s::r) b):s.full<1000000:=by
 have h1:=h.typ.2
 have:=terr_full h1
 omega
theorem UW.afull(h:UW g f hyps i (s::r) b):(allN r.length b).full≤266240:=by
 have e1:(allN (s::r).length b).err=0:=h.ch.err.1
 have e2:=ferr_full e1
 have e3:(allN (s::r).length b).full=(quF 4 natT (allN r.length b)).full:=rfl
 rw[e3,Fm.full_eq] at e2
 have e4:(quF 4 natT (allN r.length b)).args=[allN r.length b]:=rfl
 rw[e4] at e2
 simp only[List.map_cons,List.map_nil,List.sum_cons,List.sum_nil] at e2
 omega
theorem g16one_c(h:UW g f hyps i (s::r) b):
 PC E 121 [.s .fm [],.agg (Gl.view ⟨⟨g,hyps⟩,f⟩),.agg [.i 13,.i i,.s .tm [s],.s .fm []]] (.tup [.s .gl [⟨⟨g,hyps++[allN r.length (b.put r.length s)]⟩,f⟩],.i 0]):=by
 obtain⟨b1,b2,b3,b4,b5,b6⟩:=h.bds
 have hsf:=h.sfull
 obtain⟨st,pe,pq⟩:=h.ch.step
 have q1:=g16hyp_c g hyps i _ h.lt (by omega) h.all
 have q2:=g16typed_c g hyps s natT (by omega) (by omega) (by decide) h.typ.1
 have haf:=h.afull
 have q3:=fputR_c (allN r.length b) 0 s (by omega) (by omega)
 rw[pe,if_pos rfl,pq] at q3
 have q4:=g16below_c g hyps b1 b2 (by omega) h.hy
 have q5:=g16goal1_c g hyps f _ h.goal.1 st.err.1 (by omega)
 generalize allN r.length (b.put r.length s)=B at*
 generalize allN r.length b=A at*
 refine M.F Tryz.func121 ?_
 refine M.v5 @q1 @q2 @q3 @q4 @q5 ?_
 all_goals first
  |rfl
  |(exfalso;simp at h;done)
  |trace_state
theorem g16oneH_c(h:UW g f hyps i [] b):
 PC E 121 [.s .fm [],.agg (Gl.view ⟨⟨g,hyps⟩,f⟩),.agg [.i 1,.i i,.s .tm [],.s .fm []]] (.tup [.s .gl [],.i 0]):=by
 obtain⟨b1,b2,b3,b4,b5,b6⟩:=h.bds
 have q1:=g16hyp_c g hyps i _ h.lt (by omega) h.nil
 have q2:=rfMatch_c f f (by omega) (by omega)
 rw[mtchF_refl h.goal.1] at q2
 refine M.F Tryz.func121 ?_
 refine M.v2 @q1 @q2 ?_
 all_goals first
  |rfl
  |(exfalso;simp at h;done)
  |trace_state
theorem g16check_c(h:UW g f hyps i r b):PC E 76 [.s .fm [],.agg (Gl.view ⟨⟨g,hyps⟩,f⟩)] (.i 0):=by
 obtain⟨b1,b2,b3,b4,b5,b6⟩:=h.bds
 have q:=rgoalCheck_c [] hyps g f (fun x hx=>by cases hx) (fun x hx=>by have:=b5 x hx;omega) (by omega) (by decide) (by omega) (by omega)
 rw[h.seq,if_neg (by simp),h.goal.2.2] at q
 exact q
theorem g16adv_c(h:UW g f hyps i (s::r) b):
 PC E 77 [.s .fm [],.agg (Gl.view ⟨⟨g,hyps⟩,f⟩),.agg [.i 13,.i i,.s .tm [s],.s .fm []]] (.tup [.s .gl [⟨⟨g,hyps++[allN r.length (b.put r.length s)]⟩,f⟩],.i 0]):=by
 have hsf:=h.sfull
 have q1:=g16check_c h
 have q2:=g16valid_c i s (by omega) (by omega) h.typ.2
 have q3:=g16one_c h
 have hl2:=h.step.bds
 have hl1:g.length≤13:=h.ch.hl
 generalize allN r.length (b.put r.length s)=B at*
 have hl3:(hyps++[B]).length≤16:=hl2.2.2.2.1
 generalize hyps++[B]=H2 at*
 refine M.F Tryz.func77 ?_
 refine M.w3 @q1 @q2 @q3 ?_
 all_goals first
  |(exfalso;simp at h;done)
  |skip
 refine M.rt 1
  (fun m=>([(10,.s .gl [⟨⟨g,H2⟩,f⟩]),(11,.i 0),(32,.s .gl [⟨⟨g,H2⟩,f⟩]),(33,.i 1),(34,.i m)],⟨0,[]⟩))
  (M.W []) ?_ ?_
 ·intro m hm _
  obtain rfl:m=0:=by omega
  repeat'(first|refine M.w0 ?_|refine M.gs ?_ ?_<;>intro h|refine M.cs ?_ ?_<;>intro h|fail)
  all_goals first
   |exact⟨rfl,trivial,(M.W [])⟩
   |(exfalso;simp at h;omega)
   |(exfalso;simp_all;omega)
   |trace_state
 ·intro _
  refine M.w0 ?_
  rfl
theorem g16advH_c(h:UW g f hyps i [] b):
 PC E 77 [.s .fm [],.agg (Gl.view ⟨⟨g,hyps⟩,f⟩),.agg [.i 1,.i i,.s .tm [],.s .fm []]] (.tup [.s .gl [],.i 0]):=by
 have q1:=g16check_c h
 have q2:=g16validH_c i (by omega)
 have q3:=g16oneH_c h
 refine M.F Tryz.func77 ?_
 refine M.w3 @q1 @q2 @q3 ?_
 all_goals first
  |(exfalso;simp at h;done)
  |skip
 refine M.rt 0
  (fun m=>([(10,.s .gl []),(11,.i 0),(32,.s .gl []),(33,.i 0),(34,.i m)],⟨0,[]⟩))
  (M.W []) ?_ ?_
 ·intro m hm _
  omega
 ·intro _
  refine M.w0 ?_
  rfl
end
theorem g16H_c(i:Int):PC E 156 [.i i] (.agg (hypP i).view):=by
 refine M.F Tryz.func156 ?_
 refine M.w0 ?_
 rfl
theorem prf_full{p:Pf}(h:p.err=0):p.full≤1064960:=by
 have h1:=(Pf.err_iff p).1 h
 have:=pfull_le p h1.1
 omega
section
variable {g:List Ty} {f:Fm} {hyps:List Fm} {i:Nat} {r:List Tm} {b:Fm} {s:Tm}
theorem g16built_c(h:UW g f hyps i (s::r) b)(p:Pf)(hp:p.full<100000000):
 PC E 123 [.s .fm [],.agg (Gl.view ⟨⟨g,hyps⟩,f⟩),.agg [.i 13,.i i,.s .tm [s],.s .fm []],.s .pf [p]]
  (.tup [.agg (Pf.mk 7 0 (.mk 0 []) [] [] [.mk 6 0 (.mk 0 []) [] [allN r.length (b.put r.length s)] [p],.mk 9 0 (.mk 0 []) [s] [] [hypP i]]).view,.i 0]):=by
 obtain⟨b1,b2,b3,b4,b5,b6⟩:=h.bds
 have hsf:=h.sfull
 obtain⟨st,pe,pq⟩:=h.ch.step
 have q1:=g16hyp_c g hyps i _ h.lt (by omega) h.all
 have q2:=g16H_c i
 have haf:=h.afull
 have q3:=fputR_c (allN r.length b) 0 s (by omega) (by omega)
 rw[pe,if_pos rfl,pq] at q3
 have hB:=ferr_full st.err.1
 generalize allN r.length (b.put r.length s)=B at*
 generalize allN r.length b=A at*
 have hh:(hypP (i:Int)).full<1000:=by simp[hypP,Pf.full,Pf.fulls,Ty.size,Ty.sizes]
 have q4:=refImp_c B p (by omega) (by omega)
 have q5:=refAt_c 9 s (hypP i) (by omega) (by omega)
 have q6:=refP_c 7 [.mk 6 0 (.mk 0 []) [] [B] [p],.mk 9 0 (.mk 0 []) [s] [] [hypP i]] (by simp) (fun x hx=>by
  simp only[List.mem_cons,List.not_mem_nil,or_false] at hx
  rcases hx with rfl|rfl<;>rw[Pf.full_eq]<;>simp[Ty.size,Ty.sizes]<;>omega)
 refine M.F Tryz.func123 ?_
 refine M.v6 @q1 @q2 @q3 @q4 @q5 @q6 ?_
 all_goals first
  |rfl
  |(exfalso;simp at h;done)
  |trace_state
theorem g16builtH_c(h:UW g f hyps i [] b):
 PC E 123 [.s .fm [],.agg (Gl.view ⟨⟨g,hyps⟩,f⟩),.agg [.i 1,.i i,.s .tm [],.s .fm []],.s .pf []] (.tup [.agg (hypP i).view,.i 0]):=by
 obtain⟨b1,b2,b3,b4,b5,b6⟩:=h.bds
 have q1:=g16hyp_c g hyps i _ h.lt (by omega) h.nil
 have q2:=g16H_c i
 refine M.F Tryz.func123 ?_
 refine M.v2 @q1 @q2 ?_
 all_goals first
  |rfl
  |(exfalso;simp at h;done)
  |trace_state
theorem g16build_c(h:UW g f hyps i (s::r) b)(hr:r.length≤2):
 PC E 80 [.s .fm [],.agg (Gl.view ⟨⟨g,hyps⟩,f⟩),.agg [.i 13,.i i,.s .tm [s],.s .fm []],.s .pf [useW 0 r (b.put r.length s)]]
  (.tup [.agg (useW i (s::r) b).view,.i 0]):=by
 have q1:=g16adv_c h
 have e1:(useW 0 r (b.put r.length s)).err=0:=h.step.prf (by omega)
 have e2:=h.prf (by simp;omega)
 have f1:=prf_full e1
 have f2:=prf_full e2
 have q2:=g16built_c h (useW 0 r (b.put r.length s)) (by omega)
 have q3:=rcheckP_c (useW 0 r (b.put r.length s)) (by omega)
 have q4:=rcheckP_c (useW i (s::r) b) (by omega)
 have q5:=copyPf_c _ (useW i (s::r) b) (Nat.le_refl _) (by omega)
 rw[e1] at q3
 rw[e2] at q4
 have hu:useW i (s::r) b= .mk 7 0 (.mk 0 []) [] [] [.mk 6 0 (.mk 0 []) [] [allN r.length (b.put r.length s)] [useW 0 r (b.put r.length s)],.mk 9 0 (.mk 0 []) [s] [] [hypP i]]:=rfl
 rw[←hu] at q2
 generalize useW i (s::r) b=W at*
 generalize useW 0 r (b.put r.length s)=p at*
 generalize hyps++[allN r.length (b.put r.length s)]=H2 at*
 clear hu
 refine M.F Tryz.func80 ?_
 refine M.w1 @q1 ?_
 all_goals first
  |(exfalso;simp at h;done)
  |skip
 refine M.rt 1
  (fun m=>([(0,.s .fm []),(3,.s .pf [p]),(5,.ptr 0 0),(6,.ptr 1 0),(8,.ptr 2 0),(34,.s .pf [p]),(35,.i 1),(36,.i m)],⟨3,[(0,.var (Gl.view ⟨⟨g,hyps⟩,f⟩)),(1,.var [.i 13,.i i,.s .tm [s],.s .fm []]),(2,.var [.i 0,.i 0,.i 0,.slice .nil (.t .ty []),.slice .nil (.t .tm []),.slice .nil (.t .fm []),.slice .nil (.t .pf [])])]⟩))
  (M.W rh3) ?_ ?_
 ·intro m hm _
  obtain rfl:m=0:=by omega
  refine M.w1 @q3 ?_
  all_goals first
   |exact⟨rfl,trivial,(M.W rh3)⟩
   |(exfalso;simp at h;done)
   |trace_state
 ·intro _
  refine M.w3 @q2 @q4 @q5 ?_
  all_goals first
   |rfl
   |(exfalso;simp at h;done)
   |trace_state
theorem g16buildH_c(h:UW g f hyps i [] b):
 PC E 80 [.s .fm [],.agg (Gl.view ⟨⟨g,hyps⟩,f⟩),.agg [.i 1,.i i,.s .tm [],.s .fm []],.s .pf []] (.tup [.agg (useW i [] b).view,.i 0]):=by
 have q1:=g16advH_c h
 have e2:=h.prf (by simp)
 have f2:=prf_full e2
 have q2:=g16builtH_c h
 have q4:=rcheckP_c (useW i [] b) (by omega)
 have q5:=copyPf_c _ (useW i [] b) (Nat.le_refl _) (by omega)
 rw[e2] at q4
 have hu:useW i [] b=hypP i:=rfl
 rw[←hu] at q2
 generalize useW i [] b=W at*
 clear hu
 refine M.F Tryz.func80 ?_
 refine M.w1 @q1 ?_
 all_goals first
  |(exfalso;simp at h;done)
  |skip
 refine M.rt 0
  (fun m=>([(0,.s .fm []),(3,.s .pf []),(5,.ptr 0 0),(6,.ptr 1 0),(8,.ptr 2 0),(34,.s .pf []),(35,.i 0),(36,.i m)],⟨3,[(0,.var (Gl.view ⟨⟨g,hyps⟩,f⟩)),(1,.var [.i 1,.i i,.s .tm [],.s .fm []]),(2,.var [.i 0,.i 0,.i 0,.slice .nil (.t .ty []),.slice .nil (.t .tm []),.slice .nil (.t .fm []),.slice .nil (.t .pf [])])]⟩))
  (M.W rh3) ?_ ?_
 ·intro m hm _
  omega
 ·intro _
  refine M.w3 @q2 @q4 @q5 ?_
  all_goals first
   |rfl
   |(exfalso;simp at h;done)
   |trace_state
end
def zPfV:List V:=[.i 0,.i 0,.i 0,.slice .nil (.t .ty []),.slice .nil (.t .tm []),.slice .nil (.t .fm []),.slice .nil (.t .pf [])]
abbrev LS:=(List Fm×Nat×List Tm×Fm×Int) ⊕ Int
def g16LJ(g:List Ty)(f:Fm)(h0:List Fm)(L:List St):LS→AF×Sto
 | .inl (H,_,_,_,k)=>([(0,.s .fm []),(9,.s .gl [⟨⟨g,H⟩,f⟩]),(28,.s .st L),(29,.i L.length),(30,.i k)],⟨1,[(0,.var (Gl.view ⟨⟨g,h0⟩,f⟩))]⟩)
 | .inr k=>([(0,.s .fm []),(9,.s .gl []),(28,.s .st L),(29,.i L.length),(30,.i k)],⟨1,[(0,.var (Gl.view ⟨⟨g,h0⟩,f⟩))]⟩)
def g16LI(g:List Ty)(f:Fm)(L:List St):LS→Prop
 | .inl (H,i,r,b,k)=>UW g f H i r b∧∃m:Nat,k=m∧m+r.length+1=L.length∧L.drop m=stW i r
 | .inr k=>k=L.length
def g16LM:LS→Nat
 | .inl (_,_,r,_,_)=>r.length+2
 | .inr _=>1
theorem drop_at{α:Type}{L:List α}{m:Nat}{x:α}{l:List α}(h:L.drop m=x::l):∃hm:m<L.length,L[m]=x∧L.drop (m+1)=l:=by
 have hm:m<L.length:=by
  have:=congrArg List.length h
  simp at this;omega
 refine⟨hm,?_,?_⟩
 ·rw [List.drop_eq_getElem_cons hm] at h
  exact(List.cons.inj h).1
 ·rw [List.drop_eq_getElem_cons hm] at h
  exact(List.cons.inj h).2
section
variable {g:List Ty} {f:Fm} {hyps:List Fm} {i:Nat} {r:List Tm} {b:Fm} {s:Tm}
theorem g16left_c(h:UW g f hyps i r b)(hr:r.length≤3):
 PC E 45 [.s .fm [],.agg (Gl.view ⟨⟨g,hyps⟩,f⟩),.s .st (stW i r)] (.tup [.s .gl [],.i 0]):=by
 have q1:=g16check_c h
 have hlen:=stW_len i r
 have h0:g16LI g f (stW i r) (.inl (hyps,i,r,b,0)):=⟨h,0,rfl,by omega,rfl⟩
 generalize stW i r=sl at*
 refine M.F Tryz.func45 ?_
 repeat'(first|refine M.o1 @q1 ?_|refine M.z1 8 ?_|refine M.cs ?_ ?_<;>intro h|refine M.gk ?_|fail)
 all_goals first
  |(exfalso;simp at h;done)
  |(exfalso;simp at h;omega)
  |skip
 refine AW.block (AW.loop (ι:={x:LS // g16LI g f sl x}) (fun x=>g16LJ g f hyps sl x.1) (fun x=>g16LM x.1) ⟨.inl (hyps,i,r,b,0),h0⟩ ?_ ?_)
 ·show Weak _ _ _ _ _ (g16LJ g f hyps sl (.inl (hyps,i,r,b,0))).1 (g16LJ g f hyps sl (.inl (hyps,i,r,b,0))).2
  simp only[g16LJ]
  exact(M.W rh1)
 rintro⟨⟨H,i',r',b',k⟩|k,hI⟩
 ·obtain ⟨hu,m,rfl,hml,hd⟩:=hI
  show AW _ _ _ _ (g16LJ g f hyps sl (.inl (H,i',r',b',(m:Int)))).1 (g16LJ g f hyps sl (.inl (H,i',r',b',(m:Int)))).2 _
  simp only[g16LJ]
  cases r' with
  |nil=>
   obtain⟨hm,e1,e2⟩:=drop_at hd
   have q2:=g16advH_c hu
   have q3:PC E 77 [.s .fm [],.agg (Gl.view ⟨⟨g,H⟩,f⟩),.agg (St.view sl[m])] (.tup [.s .gl [],.i 0]):=by rw[e1];exact q2
   have hm2:(m:Int)<(sl.length:Int):=by omega
   repeat'(first|refine M.w1 @q3 ?_|refine M.zb ?_|refine M.ks ?_ ?_<;>intro h|fail)
   all_goals first
    |(exfalso;simp at h;omega)
    |(exfalso;simp_all;omega)
    |skip
   refine L.ap0 rfl rfl rfl rfl rfl rfl rfl ?_
   refine M.w0 ?_
   refine⟨⟨.inr ((m:Int)+1),by show(m:Int)+1=(sl.length:Int);simp at hml;omega⟩,by simp[g16LM],?_⟩
   show Weak _ _ _ _ _ (g16LJ g f hyps sl (.inr ((m:Int)+1))).1 (g16LJ g f hyps sl (.inr ((m:Int)+1))).2
   simp only[g16LJ]
   exact(M.W rh1)
  |cons s' r'=>
   obtain⟨hm,e1,e2⟩:=drop_at hd
   have q2:=g16adv_c hu
   have q3:PC E 77 [.s .fm [],.agg (Gl.view ⟨⟨g,H⟩,f⟩),.agg (St.view sl[m])] (.tup [.s .gl [⟨⟨g,H++[allN r'.length (b'.put r'.length s')]⟩,f⟩],.i 0]):=by rw[e1];exact q2
   have hm2:(m:Int)<(sl.length:Int):=by omega
   repeat'(first|refine M.w1 @q3 ?_|refine M.zb ?_|refine M.ks ?_ ?_<;>intro h|fail)
   all_goals first
    |(exfalso;simp at h;omega)
    |(exfalso;simp_all;omega)
    |skip
   refine L.ap0 rfl rfl rfl rfl rfl rfl rfl ?_
   refine M.w0 ?_
   refine⟨⟨.inl (H++[allN r'.length (b'.put r'.length s')],0,r',b'.put r'.length s',(m:Int)+1),hu.step,m+1,by simp,by simp at hml;omega,e2⟩,by simp[g16LM],?_⟩
   show Weak _ _ _ _ _ (g16LJ g f hyps sl (.inl (H++[allN r'.length (b'.put r'.length s')],0,r',b'.put r'.length s',(m:Int)+1))).1 (g16LJ g f hyps sl (.inl (H++[allN r'.length (b'.put r'.length s')],0,r',b'.put r'.length s',(m:Int)+1))).2
   simp only[g16LJ]
   exact(M.W rh1)
 ·have hI:k=sl.length:=hI
  subst hI
  show AW _ _ _ _ (g16LJ g f hyps sl (.inr (sl.length:Int))).1 (g16LJ g f hyps sl (.inr (sl.length:Int))).2 _
  simp only[g16LJ]
  repeat'(first|refine M.w0 ?_|refine M.zb ?_|refine M.ks ?_ ?_<;>intro h|fail)
  all_goals first
   |(exfalso;simp at h;done)
   |skip
  refine M.rt 0
   (fun m=>([(14,.s .gl []),(57,.s .gl []),(58,.i 0),(59,.i m)],⟨0,[]⟩))
   (M.W []) ?_ ?_
  ·intro m hm _
   omega
  ·intro _
   refine M.w0 ?_
   rfl
end
def g16PJ(g:List Ty)(f:Fm)(h0:List Fm)(G:Gl)(sl rest:List St)(p:Pf):Bool→AF×Sto
 |false=>([(0,.s .fm []),(2,.s .st sl),(4,.ptr 0 0),(6,.ptr 1 0),(11,.s .st rest),(12,.slice .nil (.t .pf [])),(34,.s .gl [G]),(35,.i 1),(36,.i 0)],⟨2,[(0,.var (Gl.view ⟨⟨g,h0⟩,f⟩)),(1,.var zPfV)]⟩)
 |true=>([(0,.s .fm []),(2,.s .st sl),(4,.ptr 0 0),(6,.ptr 1 0),(11,.s .st []),(12,.s .pf [p]),(34,.s .gl [G]),(35,.i 1),(36,.i 1)],⟨2,[(0,.var (Gl.view ⟨⟨g,h0⟩,f⟩)),(1,.var zPfV)]⟩)
theorem g16prove_c{g:List Ty}{f:Fm}:∀(r:List Tm) (hyps:List Fm) (i:Nat) (b:Fm),UW g f hyps i r b→r.length≤3→
 PC E 46 [.s .fm [],.agg (Gl.view ⟨⟨g,hyps⟩,f⟩),.s .st (stW i r)] (.tup [.agg (useW i r b).view,.s .st [],.i 0]):=by
 intro r
 induction r with
 |nil=>
  intro hyps i b h hr
  have q1:=g16advH_c h
  have q2:=g16buildH_c h
  have q3:PC E 77 [.s .fm [],.agg (Gl.view ⟨⟨g,hyps⟩,f⟩),.agg (St.view ([⟨1,i,[],[]⟩]:List St)[0])] (.tup [.s .gl [],.i 0]):=q1
  have q4:PC E 80 [.s .fm [],.agg (Gl.view ⟨⟨g,hyps⟩,f⟩),.agg (St.view ([⟨1,i,[],[]⟩]:List St)[0]),.s .pf []] (.tup [.agg (useW i [] b).view,.i 0]):=q2
  have hs:stW i []=[⟨1,i,[],[]⟩]:=rfl
  rw[hs]
  generalize useW i [] b=W at*
  refine M.F Tryz.func46 ?_
  refine M.w1 @q3 ?_
  all_goals first
   |(exfalso;simp at h;done)
   |skip
  refine M.rt 0
   (fun m=>([(0,.s .fm []),(2,.s .st [⟨1,i,[],[]⟩]),(4,.ptr 0 0),(6,.ptr 1 0),(11,.s .st []),(12,.slice .nil (.t .pf [])),(34,.s .gl []),(35,.i 0),(36,.i m)],⟨2,[(0,.var (Gl.view ⟨⟨g,hyps⟩,f⟩)),(1,.var zPfV)]⟩))
   (M.W rh2) ?_ ?_
  ·intro m hm _
   omega
  ·intro _
   refine M.w1 @q4 ?_
   all_goals first
    |rfl
    |(exfalso;simp at h;done)
    |trace_state
 |cons s r ih=>
  intro hyps i b h hr
  simp only[List.length_cons] at hr
  have q1:=g16adv_c h
  have q2:=g16build_c h (by omega)
  have q5:=ih _ 0 _ h.step (by omega)
  have hs:stW i (s::r)=⟨13,i,[s],[]⟩::stW 0 r:=rfl
  have q5:PC E 46 [.s .fm [],.agg (Gl.view ⟨⟨g,hyps++[allN r.length (b.put r.length s)]⟩,f⟩),.s .st (stW 0 r)] (.tup [.agg (useW 0 r (b.put r.length s)).view,.s .st [],.i 0]):=q5
  rw[hs]
  generalize useW i (s::r) b=W at*
  generalize useW 0 r (b.put r.length s)=p at*
  generalize hyps++[allN r.length (b.put r.length s)]=H2 at*
  generalize stW 0 r=rest at*
  have q3:PC E 77 [.s .fm [],.agg (Gl.view ⟨⟨g,hyps⟩,f⟩),.agg (St.view ((⟨13,i,[s],[]⟩:St)::rest)[0])] (.tup [.s .gl [⟨⟨g,H2⟩,f⟩],.i 0]):=q1
  have q4:PC E 80 [.s .fm [],.agg (Gl.view ⟨⟨g,hyps⟩,f⟩),.agg (St.view ((⟨13,i,[s],[]⟩:St)::rest)[0]),.s .pf [p]] (.tup [.agg W.view,.i 0]):=q2
  obtain⟨pk,pi,pt,pts,pfs,pzs⟩:=p
  refine M.F Tryz.func46 ?_
  repeat'(first|refine M.o1 @q3 ?_|refine M.z1 7 ?_|refine M.gk ?_|fail)
  all_goals first
   |(exfalso;simp at h;done)
   |skip
  refine AW.block (AW.loop (ι:=Bool) (fun x=>g16PJ g f hyps ⟨⟨g,H2⟩,f⟩ (⟨13,i,[s],[]⟩::rest) rest ⟨pk,pi,pt,pts,pfs,pzs⟩ x) (fun x=>if x=true then 0 else 1) false ?_ ?_)
  ·show Weak _ _ _ _ _ (g16PJ g f hyps ⟨⟨g,H2⟩,f⟩ (⟨13,i,[s],[]⟩::rest) rest ⟨pk,pi,pt,pts,pfs,pzs⟩ false).1 (g16PJ g f hyps ⟨⟨g,H2⟩,f⟩ (⟨13,i,[s],[]⟩::rest) rest ⟨pk,pi,pt,pts,pfs,pzs⟩ false).2
   simp only[g16PJ]
   exact(M.W rh2 (hf:=(by(repeat'(first|exact trivial|refine And.intro ?_ ?_|refine⟨_,U,_,U,?_⟩|exact VLe.refl _|exact VLe.of_eq (by simp[Sto.upd,zPfV])));done)))
  rintro(_|_)
  ·show AW _ _ _ _ (g16PJ g f hyps ⟨⟨g,H2⟩,f⟩ (⟨13,i,[s],[]⟩::rest) rest ⟨pk,pi,pt,pts,pfs,pzs⟩ false).1 (g16PJ g f hyps ⟨⟨g,H2⟩,f⟩ (⟨13,i,[s],[]⟩::rest) rest ⟨pk,pi,pt,pts,pfs,pzs⟩ false).2 _
   simp only[g16PJ]
   repeat'(first|((with_reducible refine D.nil ?_);refine AX.nilL ?_)|((with_reducible refine D.load ?_);first|refine L.ldb U U U U U U ?_|refine L.lda U U U U U ?_)|((with_reducible refine D.move ?_);refine L.mv U U U ?_)|((with_reducible refine D.assign ?_);refine L.asg U U U ?_)|((with_reducible refine D.bin ?_);first|refine L.ad U U U U (by omega) ?_|refine L.bn U U U U U ?_)|((with_reducible refine D.call ?_);first|refine L.apt U U U U U U (by first|exact trivial|exact⟨rfl,trivial⟩) U U (by simp) ?_|refine L.c2 (q5) U U U U ?_)|((with_reducible refine D.extract ?_);refine L.ex U U U U ?_)|((with_reducible refine D.alloc ?_);refine L.al U U U ?_)|((with_reducible refine D.store ?_);refine L.st U U U U U U U U U ?_)|((with_reducible refine D.indexAddr ?_);refine L.ixt _ U U U U U U U (by first|(simp only[Ty.args_mk,Tm.args_mk,List.length_cons,List.length_nil,List.getElem_cons_zero,List.getElem_cons_succ];omega)|fail) ?_)|((with_reducible refine D.ax ?_);refine L.bs1 U U U U U (EC.fold_of U) U U ?_)|((with_reducible refine D.aw ?_);first|((with_reducible refine D.sblk ?_);refine K.sq (AW.block ?_))|refine K.sq (AW.regL ?_)|refine K.sq (K.sq ?_)|refine AW.regL ?_|refine K.sq (AW.condT U ?_)|refine AW.condF U ?_|refine AW.skip ?_)|with_reducible refine K.tN ?_|with_reducible refine K.bN ?_)
   all_goals first
    |(exfalso;simp at h;done)
    |skip
   refine⟨true,by decide,?_⟩
   show Weak _ _ _ _ _ (g16PJ g f hyps ⟨⟨g,H2⟩,f⟩ (⟨13,i,[s],[]⟩::rest) rest ⟨pk,pi,pt,pts,pfs,pzs⟩ true).1 (g16PJ g f hyps ⟨⟨g,H2⟩,f⟩ (⟨13,i,[s],[]⟩::rest) rest ⟨pk,pi,pt,pts,pfs,pzs⟩ true).2
   simp only[g16PJ]
   exact(M.W rh2)
  ·show AW _ _ _ _ (g16PJ g f hyps ⟨⟨g,H2⟩,f⟩ (⟨13,i,[s],[]⟩::rest) rest ⟨pk,pi,pt,pts,pfs,pzs⟩ true).1 (g16PJ g f hyps ⟨⟨g,H2⟩,f⟩ (⟨13,i,[s],[]⟩::rest) rest ⟨pk,pi,pt,pts,pfs,pzs⟩ true).2 _
   simp only[g16PJ]
   refine M.w1 @q4 ?_
   all_goals first
    |rfl
    |(exfalso;simp at h;done)
    |trace_state
theorem g16Prove_c{g:List Ty}{f:Fm}{hyps:List Fm}{i:Nat}{r:List Tm}{b:Fm}(h:UW g f hyps i r b)(hr:r.length≤3):
 PC E 19 [.s .fm [],.agg (Gl.view ⟨⟨g,hyps⟩,f⟩),.s .st (stW i r)] (.tup [.agg (useW i r b).view,.i 0]):=by
 have q1:=g16left_c h hr
 have q2:=g16prove_c r hyps i b h hr
 generalize useW i r b=W at*
 generalize stW i r=sl at*
 refine M.F Tryz.func19 ?_
 refine M.w2 @q1 @q2 ?_
 all_goals first
  |rfl
  |(exfalso;simp at h;done)
  |trace_state
end Go.Ab
