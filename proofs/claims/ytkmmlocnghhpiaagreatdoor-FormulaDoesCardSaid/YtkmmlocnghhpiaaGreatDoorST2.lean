/- A part of the proofs of this seat's statements: S76, S77, S80, S173, S81, S174. It has no conditions of its own. -/
import Derived.Test.YtkmmlocnghhpiaaGreatDoorA2
import Derived.Test.YtkmmlocnghhpiaaGreatDoorST1
import Derived.Test.YtkmmlocnghhpiaaGreatDoorS3
import Derived.Test.YtkmmlocnghhpiaaGreatDoorDT1
import Derived.Test.YtkmmlocnghhpiaaGreatDoorS2
import Derived.Test.YtkmmlocnghhpiaaGreatDoorS7
import Derived.Test.YtkmmlocnghhpiaaGreatDoorS4
import Derived.Test.YtkmmlocnghhpiaaGreatDoorD1
import Derived.Test.YtkmmlocnghhpiaaGreatDoorS5
import Derived.Test.YtkmmlocnghhpiaaGreatDoorS6
import Derived.Test.YtkmmlocnghhpiaaGreatDoorA3
namespace Go.Ab
open Go Go.Proofs
set_option maxRecDepth 100000
set_option maxHeartbeats 4000000
set_option linter.all false
theorem with_c(g:List Ty)(th:Ty)(hg:g.length<274877906944)(hl:th.size<274877906944):PC E 132 [.s .sz (g.map ofT),.s .ty [th]] (.s .sz ((g++[th]).map ofT)):=by
 have h1:=from_c [th] (by simp;omega)
 simp only[List.map_cons,List.map_nil] at h1
 refine M.F Tryz.func132 ?_
 repeat'(first|refine M.gw ?_|refine M.c2 (h1) ?_|fail)
 simp[tupV,V.wk,V.wks]
theorem tnumber_c(g:List Ty)(t:Tm)(ht:t.err=0)(hf:t.full<137438953472)(hg:∀x∈g,x.err=0)(hl:g.length<68719476736):PC E 133 [.s .sz (g.map ofT),.agg t.view] (.i (tE g t)):=by
 have h1:PC E 181 [.s .sz (g.map ofT),.agg t.view] (.tup [.agg (ofT (t.inf g).1).view,.i (t.inf g).2]):=ctypeOf_c _ t g (Nat.le_refl _) (err_zero ht).1 hg (by omega)
 have h2:=is_c (ofT (t.inf g).1) 1
 have e:tE g t=if(t.inf g).2≠0 then(t.inf g).2 else if(t.inf g).1.kind≠1 then 7 else 0:=by
  have ty:typed g t=t.inf g:=by simp only[typed];rw[if_neg (by simp[ht])]
  unfold tE;rw[ty]
 have hh:PC E 160 [.s .sz (g.map ofT),.agg t.view,.i 1] (.i (tE g t)):=by
  rw[e]
  generalize t.inf g=r at*
  obtain⟨u,q⟩:=r
  simp only at h1 h2 ⊢
  by_cases hq:q=0
  ·subst hq
   by_cases hk:u.kind=1
   ·rw [show((ofT u).ty.kind==1)=true by simp[ofT,hk]] at h2
    refine M.F Tryz.func160 ?_
    repeat'(first|refine M.gw ?_|refine M.c2 (h1) ?_|refine M.c2 (h2) ?_|fail)
    simp[tupV,V.wk,V.wks,hk]
   ·rw [show((ofT u).ty.kind==1)=false by simp[ofT,hk]] at h2
    refine M.F Tryz.func160 ?_
    repeat'(first|refine M.gw ?_|refine M.c2 (h1) ?_|refine M.c2 (h2) ?_|fail)
    simp[tupV,V.wk,V.wks,hk]
  ·refine M.F Tryz.func160 ?_
   repeat'(first|refine M.gw ?_|refine M.c2 (h1) ?_|refine M.c2 (h2) ?_|refine M.gs ?_ ?_<;>intro h|refine M.cs ?_ ?_<;>intro h|fail)
   all_goals first
    |(simp[tupV,V.wk,V.wks,hq];done)
    |(exfalso;simp_all;done)
 refine M.F Tryz.func133 ?_
 repeat'(first|refine M.gw ?_|refine M.c2 (hh) ?_|fail)
 simp[tupV,V.wk,V.wks,constV,Ty.view,Tm.view]
theorem cformula_c:∀(n:Nat) (f:Fm) (g:List Ty),f.full≤n→n<68719476736→f.shape=true→f.size≤4096→(∀x∈g,x.err=0)→g.length+n<68719476736→PC E 87 [.s .sz (g.map ofT),.agg f.view] (.i (f.tyE g)):=by
 intro n
 induction n with
 |zero=>intro f;intros;have:=f.full_pos;omega
 |succ n ih=>
 intro f g hsz hn hs hz hg hgl
 have hsz':=f.full_eq
 have hzz:=f.size_eq
 have hlen:=lsum_len Fm.full Fm.full_pos f.args
 have hlen2:=lsum_len Tm.full Tm.full_pos f.terms
 have he:=Fm.tyE_eq g f
 have sa:=fun x (hx:x∈f.args)=>fshape_args hs hx
 have st:=fun t (ht:t∈f.terms)=>fshape_terms hs ht
 have hkk:=fshape_kinds hs
 obtain⟨k,th,ts,xs⟩:=f
 simp only[Fm.kind_mk,Fm.ty_mk,Fm.terms_mk,Fm.args_mk] at*
 have args:∀(g':List Ty),(∀x∈g',x.err=0)→g'.length+n<68719476736→∀m (hm:m<xs.length),PC E 87 [.s .sz (g'.map ofT),.agg xs[m].view] (.i (xs[m].tyE g')):=fun g' h' hl' m hm=>by
  have h1:=lsum_mem Fm.full (List.getElem_mem hm)
  have h2:=lsum_mem Fm.size (List.getElem_mem hm)
  exact ih xs[m] g' (by omega) (by omega) (sa _ (List.getElem_mem hm)) (by omega) h' hl'
 have hw:=with_c g th (by omega) (by omega)
 rcases hkk with⟨rfl,rfl⟩|⟨hk,rfl⟩|⟨hk,rfl,hth⟩
 ·replace he:Fm.tyE g (Fm.mk 1 th ts [])=firstI (tE g) ts:=by
   rw[he];by_cases hx:firstI (tE g) ts=0<;>simp[hx,firstI]
  refine M.F Tryz.func87 ?_
  repeat'(first|refine M.gw ?_|refine M.zb ?_|refine M.bl ?_|fail)
  refine K.sq (AW.block ?_)
  repeat'(first|refine M.gw ?_|refine M.bl ?_|fail)
  refine AW.range ts.length (fun m=>∀j (hj:j<ts.length),j<m→tE g ts[j]=0)
   (fun m=>([(0,.s .sz (g.map ofT)),(3,.ptr 0 0),(42,.s .tm ts),(43,.i ts.length),(44,.i m)],⟨1,[(0,.var (Fm.mk 1 th ts []).view)]⟩))
   (by omega) (fun m=>rfl) (fun m=>rfl) rfl (fun j hj h=>by omega) (M.W [some 0]) ?_ ?_
  ·intro m hm hP
   have h1:=lsum_mem Tm.full (List.getElem_mem hm)
   have h2:=lsum_mem Tm.size (List.getElem_mem hm)
   have hc:=tnumber_c g ts[m] ((Tm.err_iff _).2 ⟨st _ (List.getElem_mem hm),by omega⟩) (by omega) hg (by omega)
   repeat'(first|refine M.gw ?_|refine M.c2 (hc) ?_|refine M.cs ?_ ?_<;>intro h|fail)
   ·have hx:tE g ts[m]≠0:=by simpa using h
    rw[he,firstI_at hm hP hx]
    rfl
   ·exact ⟨rfl,all_step (p:=fun x=>tE g x=0) hm hP (by simpa using h),(M.W [some 0])⟩
  ·intro hP
   rw[he,firstI_none (f:=tE g) fun j hj _=>hP j hj hj]
   repeat'(first|refine M.gw ?_|fail)
   rfl
 ·have e0:ctxF g (Fm.mk k th [] xs)=g:=by simp only[ctxF,quantK,Fm.kind_mk];rcases hk with rfl|rfl<;>rfl
  rw[e0] at he
  replace he:Fm.tyE g (Fm.mk k th [] xs)=firstI (Fm.tyE g) xs:=by rw[he];simp[firstI]
  rcases hk with rfl|rfl
  ·refine M.F Tryz.func87 ?_
   repeat'(first|refine M.gw ?_|refine M.zb ?_|refine M.bl ?_|fail)
   refine K.sq (AW.block ?_)
   repeat'(first|refine M.gw ?_|refine M.bl ?_|fail)
   refine AW.range xs.length (fun m=>∀j (hj:j<xs.length),j<m→xs[j].tyE (g)=0)
    (fun m=>([(0,.s .sz ((g).map ofT)),(3,.ptr 0 0),(28,.s .fm xs),(29,.i xs.length),(30,.i m)],⟨1,[(0,.var (Fm.mk 2 th [] xs).view)]⟩))
    (by omega) (fun m=>rfl) (fun m=>rfl) rfl (fun j hj h=>by omega) (M.W [some 0]) ?_ ?_
   ·intro m hm hP
    have hc:=args (g) hg (by omega) m hm
    repeat'(first|refine M.gw ?_|refine M.c2 (hc) ?_|refine M.cs ?_ ?_<;>intro h|fail)
    ·have hx:xs[m].tyE (g)≠0:=by simpa using h
     rw[he,firstI_at hm hP hx]
     rfl
    ·exact ⟨rfl,all_step (p:=fun x=>Fm.tyE (g) x=0) hm hP (by simpa using h),(M.W [some 0])⟩
   ·intro hP
    rw[he,firstI_none (f:=Fm.tyE (g)) fun j hj _=>hP j hj hj]
    repeat'(first|refine M.gw ?_|fail)
    rfl
  ·refine M.F Tryz.func87 ?_
   repeat'(first|refine M.gw ?_|refine M.zb ?_|refine M.bl ?_|fail)
   refine K.sq (AW.block ?_)
   repeat'(first|refine M.gw ?_|refine M.bl ?_|fail)
   refine AW.range xs.length (fun m=>∀j (hj:j<xs.length),j<m→xs[j].tyE (g)=0)
    (fun m=>([(0,.s .sz ((g).map ofT)),(3,.ptr 0 0),(28,.s .fm xs),(29,.i xs.length),(30,.i m)],⟨1,[(0,.var (Fm.mk 3 th [] xs).view)]⟩))
    (by omega) (fun m=>rfl) (fun m=>rfl) rfl (fun j hj h=>by omega) (M.W [some 0]) ?_ ?_
   ·intro m hm hP
    have hc:=args (g) hg (by omega) m hm
    repeat'(first|refine M.gw ?_|refine M.c2 (hc) ?_|refine M.cs ?_ ?_<;>intro h|fail)
    ·have hx:xs[m].tyE (g)≠0:=by simpa using h
     rw[he,firstI_at hm hP hx]
     rfl
    ·exact ⟨rfl,all_step (p:=fun x=>Fm.tyE (g) x=0) hm hP (by simpa using h),(M.W [some 0])⟩
   ·intro hP
    rw[he,firstI_none (f:=Fm.tyE (g)) fun j hj _=>hP j hj hj]
    repeat'(first|refine M.gw ?_|fail)
    rfl
 ·have e0:ctxF g (Fm.mk k th [] xs)=g++[th]:=by simp only[ctxF,quantK,Fm.kind_mk,Fm.ty_mk];rcases hk with rfl|rfl|rfl|rfl<;>rfl
  rw[e0] at he
  replace he:Fm.tyE g (Fm.mk k th [] xs)=firstI (Fm.tyE (g++[th])) xs:=by rw[he];simp[firstI]
  have hg':∀x∈g++[th],x.err=0:=fun x hx=>by
   rcases List.mem_append.1 hx with h|h
   ·exact hg x h
   ·simp at h;subst h;exact hth
  rcases hk with rfl|rfl|rfl|rfl
  ·refine M.F Tryz.func87 ?_
   repeat'(first|refine M.gw ?_|refine M.zb ?_|refine M.bl ?_|fail)
   refine K.sq (AW.block ?_)
   repeat'(first|refine M.gw ?_|refine M.c2 (hw) ?_|refine M.bl ?_|fail)
   refine AW.range xs.length (fun m=>∀j (hj:j<xs.length),j<m→xs[j].tyE (g++[th])=0)
    (fun m=>([(0,.s .sz ((g++[th]).map ofT)),(3,.ptr 0 0),(28,.s .fm xs),(29,.i xs.length),(30,.i m)],⟨1,[(0,.var (Fm.mk 4 th [] xs).view)]⟩))
    (by omega) (fun m=>rfl) (fun m=>rfl) rfl (fun j hj h=>by omega) (M.W [some 0]) ?_ ?_
   ·intro m hm hP
    have hc:=args (g++[th]) hg' (by simp;omega) m hm
    repeat'(first|refine M.gw ?_|refine M.c2 (hc) ?_|refine M.cs ?_ ?_<;>intro h|fail)
    ·have hx:xs[m].tyE (g++[th])≠0:=by simpa using h
     rw[he,firstI_at hm hP hx]
     rfl
    ·exact ⟨rfl,all_step (p:=fun x=>Fm.tyE (g++[th]) x=0) hm hP (by simpa using h),(M.W [some 0])⟩
   ·intro hP
    rw[he,firstI_none (f:=Fm.tyE (g++[th])) fun j hj _=>hP j hj hj]
    repeat'(first|refine M.gw ?_|fail)
    rfl
  ·refine M.F Tryz.func87 ?_
   repeat'(first|refine M.gw ?_|refine M.zb ?_|refine M.bl ?_|fail)
   refine K.sq (AW.block ?_)
   repeat'(first|refine M.gw ?_|refine M.c2 (hw) ?_|refine M.bl ?_|fail)
   refine AW.range xs.length (fun m=>∀j (hj:j<xs.length),j<m→xs[j].tyE (g++[th])=0)
    (fun m=>([(0,.s .sz ((g++[th]).map ofT)),(3,.ptr 0 0),(28,.s .fm xs),(29,.i xs.length),(30,.i m)],⟨1,[(0,.var (Fm.mk 5 th [] xs).view)]⟩))
    (by omega) (fun m=>rfl) (fun m=>rfl) rfl (fun j hj h=>by omega) (M.W [some 0]) ?_ ?_
   ·intro m hm hP
    have hc:=args (g++[th]) hg' (by simp;omega) m hm
    repeat'(first|refine M.gw ?_|refine M.c2 (hc) ?_|refine M.cs ?_ ?_<;>intro h|fail)
    ·have hx:xs[m].tyE (g++[th])≠0:=by simpa using h
     rw[he,firstI_at hm hP hx]
     rfl
    ·exact ⟨rfl,all_step (p:=fun x=>Fm.tyE (g++[th]) x=0) hm hP (by simpa using h),(M.W [some 0])⟩
   ·intro hP
    rw[he,firstI_none (f:=Fm.tyE (g++[th])) fun j hj _=>hP j hj hj]
    repeat'(first|refine M.gw ?_|fail)
    rfl
  ·refine M.F Tryz.func87 ?_
   repeat'(first|refine M.gw ?_|refine M.zb ?_|refine M.bl ?_|fail)
   refine K.sq (AW.block ?_)
   repeat'(first|refine M.gw ?_|refine M.c2 (hw) ?_|refine M.bl ?_|fail)
   refine AW.range xs.length (fun m=>∀j (hj:j<xs.length),j<m→xs[j].tyE (g++[th])=0)
    (fun m=>([(0,.s .sz ((g++[th]).map ofT)),(3,.ptr 0 0),(28,.s .fm xs),(29,.i xs.length),(30,.i m)],⟨1,[(0,.var (Fm.mk 6 th [] xs).view)]⟩))
    (by omega) (fun m=>rfl) (fun m=>rfl) rfl (fun j hj h=>by omega) (M.W [some 0]) ?_ ?_
   ·intro m hm hP
    have hc:=args (g++[th]) hg' (by simp;omega) m hm
    repeat'(first|refine M.gw ?_|refine M.c2 (hc) ?_|refine M.cs ?_ ?_<;>intro h|fail)
    ·have hx:xs[m].tyE (g++[th])≠0:=by simpa using h
     rw[he,firstI_at hm hP hx]
     rfl
    ·exact ⟨rfl,all_step (p:=fun x=>Fm.tyE (g++[th]) x=0) hm hP (by simpa using h),(M.W [some 0])⟩
   ·intro hP
    rw[he,firstI_none (f:=Fm.tyE (g++[th])) fun j hj _=>hP j hj hj]
    repeat'(first|refine M.gw ?_|fail)
    rfl
  ·refine M.F Tryz.func87 ?_
   repeat'(first|refine M.gw ?_|refine M.zb ?_|refine M.bl ?_|fail)
   refine K.sq (AW.block ?_)
   repeat'(first|refine M.gw ?_|refine M.c2 (hw) ?_|refine M.bl ?_|fail)
   refine AW.range xs.length (fun m=>∀j (hj:j<xs.length),j<m→xs[j].tyE (g++[th])=0)
    (fun m=>([(0,.s .sz ((g++[th]).map ofT)),(3,.ptr 0 0),(28,.s .fm xs),(29,.i xs.length),(30,.i m)],⟨1,[(0,.var (Fm.mk 7 th [] xs).view)]⟩))
    (by omega) (fun m=>rfl) (fun m=>rfl) rfl (fun j hj h=>by omega) (M.W [some 0]) ?_ ?_
   ·intro m hm hP
    have hc:=args (g++[th]) hg' (by simp;omega) m hm
    repeat'(first|refine M.gw ?_|refine M.c2 (hc) ?_|refine M.cs ?_ ?_<;>intro h|fail)
    ·have hx:xs[m].tyE (g++[th])≠0:=by simpa using h
     rw[he,firstI_at hm hP hx]
     rfl
    ·exact ⟨rfl,all_step (p:=fun x=>Fm.tyE (g++[th]) x=0) hm hP (by simpa using h),(M.W [some 0])⟩
   ·intro hP
    rw[he,firstI_none (f:=Fm.tyE (g++[th])) fun j hj _=>hP j hj hj]
    repeat'(first|refine M.gw ?_|fail)
    rfl
theorem fmTyped_c(g:List Ty)(f:Fm)(hf:f.full<34359738368)(hg:ctxErr g=0)(hg':∀x∈g,x.err=0)(hl:g.length<4096)(hs:(g.map Ty.size).sum<137438953472)(he:f.err=0):PC E 28 [.s .ty g,.agg f.view] (.i (f.tyE g)):=by
 have h1:=context2_c g (by omega)
 have h2:=fcheck_c f (by omega)
 have h3:=from_c g (by omega)
 have h4:=(Fm.err_iff f).1 he
 have h5:=cformula_c _ f g (Nat.le_refl _) (by omega) h4.1 h4.2 hg' (by omega)
 rw[hg] at h1
 rw[he] at h2
 refine M.F Tryz.func28 ?_
 repeat'(first|refine M.gw ?_|refine M.c2 (h1) ?_|refine M.c2 (h2) ?_|refine M.c2 (h3) ?_|refine M.c2 (h5) ?_|fail)
 simp[tupV,V.wk,V.wks,constV,Ty.view,Tm.view]
theorem false07_c:PC E 39 [] (.agg falseF.view):=by
 have h1:=n_c 4 [] (by simp)
 have h2:=n_c 5 [.mk 4 0 (.mk 0 []) []] (by simp[Tm.full,Tm.fulls,Ty.size,Ty.sizes])
 have h3:=eqFm_c (.mk 4 0 (.mk 0 []) []) (.mk 5 0 (.mk 0 []) [.mk 4 0 (.mk 0 []) []]) (by simp[Tm.full,Tm.fulls,Ty.size,Ty.sizes]) (by simp[Tm.full,Tm.fulls,Ty.size,Ty.sizes])
 refine M.F Tryz.func39 ?_
 repeat'(first|refine M.gw ?_|refine M.c2 (h1) ?_|refine M.c2 (h2) ?_|refine M.c2 (h3) ?_|fail)
 rfl
theorem sane07_c:PC E 4 [] (.bool true):=by
 have v0:=var_c 0
 have v1:=var_c 1
 have hu:=usesF_c exF (by decide) fun _=>exF_idx
 rw[exF_err,if_pos rfl,exF_uses] at hu
 have hs:=sameFm_r _ falseF (Nat.le_refl _) (by decide)
 refine M.F Tryz.func4 ?_
 repeat'(first|refine M.gw ?_|refine M.c2 (v0) ?_|refine M.c2 (v1) ?_|refine M.c2 (hu) ?_|refine M.c2 (ffalse_c) ?_|refine M.c2 (false07_c) ?_|refine M.c2 (hs) ?_|fail)
 all_goals rfl
theorem put_low{t:Tm}(a:Int)(s:Tm)(hc:cnt a (t.vars 0)=0):t.re (putG a s) 0=t.re (liftG (a+1) (-1)) 0:=by
 refine re_congr t 0 fun p hp=> ?_
 have h0:=cnt_zero hc p hp
 rw[putG_eq,liftG_eq,if_neg h0]
 by_cases h1:p.1-p.2>a
 ·rw [if_pos h1,if_pos (by omega)];congr 1
 ·rw [if_neg h1,if_neg (by omega)]
theorem countFFw(at_ c:Int)(t:Tm)(bl:Int)(ht:t.full<549755813888)(hc0:0≤c∧c<549755813888)(ha:0≤at_∧at_<549755813888)(hb:0≤bl∧bl<549755813888)(hix:∀p∈t.vars 0,0≤p.1∧p.1<9223372036854775808):
 AC E 139 [.agg t.view,.i bl,.ptr 0 0,.ptr 1 0] ⟨2,[(0,.var [.i c]),(1,.var [.i at_])]⟩ (.tup []) ⟨2,[(0,.var [.i (c+cntF at_ [(t,bl)])]),(1,.var [.i at_])]⟩:=by
 have hc:=count_w t (at_+bl) ht hix
 have h1:=cnt_le (at_+bl) (t.vars 0)
 have h2:=t.vars_len 0
 have h3:=t.size_le_full
 refine M.F Tryz.func139 ?_
 repeat'(first|refine M.gw ?_|refine M.c2 (hc) ?_|fail)
 (exact M.n2 [some 0,some 1] (h8:=(by simp[tupV,V.wk,V.wks,constV,Ty.view,Tm.view,cntF])))
theorem countFEachW(at_ C:Int)(ha:0≤at_∧at_<549755813888)(hC:C<549755813888):∀(n:Nat) (f:Fm) (c:Int) (bl:Int),f.full≤n→n<549755813888→0≤bl→bl+n<549755813888→0≤c→c+f.size≤C→(∀p∈f.tms bl,∀q∈p.1.vars 0,0≤q.1∧q.1<9223372036854775808)→AC E 64 [.agg f.view,.i bl,.fn (.func 139) [] [.ptr 0 0,.ptr 1 0]] ⟨2,[(0,.var [.i c]),(1,.var [.i at_])]⟩ (.tup []) ⟨2,[(0,.var [.i (c+cntF at_ (f.tms bl))]),(1,.var [.i at_])]⟩:=by
 intro n
 induction n with
 |zero=>intro f;intros;have:=f.full_pos;omega
 |succ n ih=>
 intro f c bl hsz hn hbl hbn hc0 hcC hix
 have hsz':=f.full_eq
 have hlen:=lsum_len Fm.full Fm.full_pos f.args
 have hlen2:=lsum_len Tm.full Tm.full_pos f.terms
 have htm:=f.tms_eq bl
 have hq:=quantifier_c f.kind
 refine M.F Tryz.func64 ?_
 repeat'(first|refine M.gw ?_|fail)
 refine AW.range f.terms.length (fun m=>True)
  (fun m=>([(1,.i bl),(2,.fn (.func 139) [] [.ptr 0 0,.ptr 1 0]),(3,.ptr 2 0),(11,.s .tm f.terms),(12,.i f.terms.length),(13,.i m)],⟨3,[(0,.var [.i (c+cntF at_ ((f.terms.take m).map (fun t=>(t,bl))))]),(1,.var [.i at_]),(2,.var f.view)]⟩))
  (by omega) (fun m=>rfl) (fun m=>rfl) rfl trivial ?_ ?_ ?_
 ·exact (M.W [some 0,some 1,some 2] (he:=(by(repeat'(first|exact trivial|refine And.intro ?_ ?_|refine⟨_,U,_,U,_,U,?_⟩|exact VLe.refl _|exact VLe.of_eq (by simp[Sto.upd,cntF])));done)))
 ·intro m hm _
  have hs2:=lsum_mem Tm.full (List.getElem_mem hm)
  have hle1:=cntF_le at_ ((f.terms.take m).map (fun t=>(t,bl)))
  have hle2:(((f.terms.take m).map (fun t=>(t,bl))).map fun p:Tm×Int=>p.1.size).sum≤f.size:=tms_le1 f bl m
  have hc:=countFFw at_ (c+cntF at_ ((f.terms.take m).map (fun t=>(t,bl)))) f.terms[m] bl (by omega) (by omega) ha (by omega) (fun p hp=>hix _ (by rw[htm];exact List.mem_append_left _ (List.mem_map.2 ⟨_,List.getElem_mem hm,rfl⟩)) p hp)
  repeat'(first|refine M.gw ?_|refine M.cv (hc) [0,1] 0 ?_|fail)
  refine⟨rfl,trivial,?_⟩
  exact(M.W [some 0,some 1,some 2] (he:=(by(repeat'(first|exact trivial|refine And.intro ?_ ?_|refine⟨_,U,_,U,_,U,?_⟩|exact VLe.refl _|exact VLe.of_eq (by simp[Sto.upd,cntF_append,Int.natCast_add,Int.add_assoc,map_take _ _ _ hm])));done)))
 ·intro _
  simp only[List.take_length]
  repeat'(first|refine M.gw ?_|refine M.c2 (hq) ?_|refine M.cs ?_ ?_<;>intro h|fail)
  all_goals
   have hup:upF f.kind bl≤bl+1:=by simp only[upF];split<;>omega
   have hup0:0≤upF f.kind bl:=by simp only[upF];split<;>omega
   refine AW.range f.args.length (fun m=>True)
    (fun m=>([(1,.i (upF f.kind bl)),(2,.fn (.func 139) [] [.ptr 0 0,.ptr 1 0]),(3,.ptr 2 0),(28,.s .fm f.args),(29,.i f.args.length),(30,.i m)],⟨3,[(0,.var [.i (c+cntF at_ (f.terms.map (fun t=>(t,bl))++(f.args.take m).flatMap (Fm.tms (upF f.kind bl))))]),(1,.var [.i at_]),(2,.var f.view)]⟩))
    (by omega) (fun m=>rfl) (fun m=>rfl) rfl trivial ?_ ?_ ?_
   ·exact (M.W [some 0,some 1,some 2] (hf:=(by(repeat'(first|exact trivial|refine And.intro ?_ ?_|refine⟨_,U,_,U,?_⟩|exact VLe.refl _|exact VLe.of_eq (by simp[Sto.upd,upF,h,cntF])));done)) (he:=(by(repeat'(first|exact trivial|refine And.intro ?_ ?_|refine⟨_,U,_,U,_,U,?_⟩|exact VLe.refl _|exact VLe.of_eq (by simp[Sto.upd,upF,h,cntF])));done)))
   ·intro m hm _
    have hs2:=lsum_mem Fm.full (List.getElem_mem hm)
    have hle1:=cntF_le at_ (f.terms.map (fun t=>(t,bl))++(f.args.take m).flatMap (Fm.tms (upF f.kind bl)))
    have hle2:((f.terms.map (fun t=>(t,bl))++(f.args.take m).flatMap (Fm.tms (upF f.kind bl))).map fun p:Tm×Int=>p.1.size).sum+(f.args[m]).size≤f.size:=tms_le2 f bl m hm
    have hc:=ih f.args[m] (c+cntF at_ (f.terms.map (fun t=>(t,bl))++(f.args.take m).flatMap (Fm.tms (upF f.kind bl)))) (upF f.kind bl) (by omega) (by omega) hup0 (by omega) (by omega) (by omega) (fun p hp=>hix p (by rw[htm];exact List.mem_append_right _ (List.mem_flatMap.2 ⟨_,List.getElem_mem hm,hp⟩)))
    repeat'(first|refine M.gw ?_|refine M.cv (hc) [0,1] 0 ?_|fail)
    refine⟨rfl,trivial,?_⟩
    exact(M.W [some 0,some 1,some 2] (he:=(by(repeat'(first|exact trivial|refine And.intro ?_ ?_|refine⟨_,U,_,U,_,U,?_⟩|exact VLe.refl _|exact VLe.of_eq (by simp[Sto.upd,cntF_append,Int.natCast_add,Int.add_assoc,flat_take _ _ _ hm])));done)))
   ·intro _
    skip
    (exact M.n2 [some 0,some 1] (h6:=(by(repeat'(first|exact trivial|refine And.intro ?_ ?_|refine⟨_,U,_,U,_,U,?_⟩|exact VLe.refl _|exact VLe.of_eq (by simp[Sto.upd,htm])));done)) (h8:=(by simp[tupV,V.wk,V.wks,constV,Ty.view,Tm.view,htm])))
theorem countFm_w(f:Fm)(at_:Int)(ha:0≤at_∧at_<549755813888)(hf:f.full<274877906944)(hix:∀p∈f.tms 0,∀q∈p.1.vars 0,0≤q.1∧q.1<9223372036854775808):PC E 95 [.agg f.view,.i at_] (.i (cntF at_ (f.tms 0))):=by
 have hle:=f.size_le_full
 have hc:=countFEachW at_ (f.size) ha (by omega) _ f 0 0 (Nat.le_refl _) (by omega) (by omega) (by omega) (by omega) (by omega) hix
 refine M.F Tryz.func95 ?_
 repeat'(first|refine M.gw ?_|refine M.cv (hc) [2,1] 0 ?_|fail)
 simp[tupV,V.wk,V.wks]
theorem putFmCw(at_:Int)(s:Tm)(hat:0≤at_∧at_<274877906944)(hs:s.full<274877906944)(hsi:∀p∈s.vars 0,0≤p.1∧p.1<549755813888)(t:Tm)(bl:Int)(ht:t.full<274877906944)(hb:0≤bl∧bl<274877906944)(hix:∀p∈t.vars 0,0≤p.1∧p.1<9223372036854775808):
 AC E 141 [.agg t.view,.i bl,.ptr 0 0,.ptr 1 0] ⟨2,[(0,.var [.i at_]),(1,.var s.view)]⟩ (.agg (t.re (putG (at_+bl) s) 0).view) ⟨2,[(0,.var [.i at_]),(1,.var s.view)]⟩:=by
 have hc:=put_w t (at_+bl) s (by omega) hs hsi ht hix
 refine M.F Tryz.func141 ?_
 repeat'(first|refine M.gw ?_|refine M.c2 (hc) ?_|fail)
 (exact M.n2 [some 0,some 1] (h8:=(by simp[tupV,V.wk,V.wks,constV,Ty.view,Tm.view,hc])))
theorem putFmRw(at_:Int)(s:Tm)(hat:0≤at_∧at_<274877906944)(hs:s.full<274877906944)(hsi:∀p∈s.vars 0,0≤p.1∧p.1<549755813888):∀(n:Nat) (f:Fm) (bl:Int),f.full≤n→n<274877906944→0≤bl→bl+n<274877906944→(∀p∈f.tms bl,∀q∈p.1.vars 0,0≤q.1∧q.1<9223372036854775808)→
 AC E 120 [.agg f.view,.i bl,.fn (.func 141) [] [.ptr 0 0,.ptr 1 0]] ⟨2,[(0,.var [.i at_]),(1,.var s.view)]⟩ (.agg (f.re (fun b t=>t.re (putG (at_+b) s) 0) bl).view) ⟨2,[(0,.var [.i at_]),(1,.var s.view)]⟩:=by
 intro n
 induction n with
 |zero=>intro f bl h;intros;have:=f.full_pos;omega
 |succ n ih=>
 intro f bl hsz hb hbl hbn hix
 have hsz':=f.full_eq
 have hlen:=lsum_len Fm.full Fm.full_pos f.args
 have hlen2:=lsum_len Tm.full Tm.full_pos f.terms
 have hty:=ownTy_c _ f.ty (Nat.le_refl _) (by omega)
 have hq:=quantifier_c f.kind
 have hre:=Fm.re_eq (fun b t=>t.re (putG (at_+b) s) 0) bl f
 have htm:=f.tms_eq bl
 refine M.F Tryz.func120 ?_
 repeat'(first|refine M.gw ?_|refine M.c2 (hty) ?_|fail)
 refine AW.range f.terms.length (fun m=>True)
  (fun m=>([(1,.i bl),(2,.fn (.func 141) [] [.ptr 0 0,.ptr 1 0]),(3,.ptr 2 0),(6,.ptr 3 0),(7,.ptr 4 0),(19,.s .tm f.terms),(20,.i f.terms.length),(21,.i m)],⟨6,[(0,.var [.i at_]),(1,.var s.view),(2,.var f.view),(3,.var [.i 0,.i 0,.slice .nil (.t .ty []),.slice .nil (.t .tm []),.slice .nil (.t .fm [])]),(4,.var [.i f.kind,.i f.ty.kind,.s .ty f.ty.args,.slice (.own 5) (.t .tm ((f.terms.take m).map ((fun b t=>t.re (putG (at_+b) s) 0) bl))),.slice .nil (.t .fm [])]),(5,.row)]⟩))
  (by omega) (fun m=>rfl) (fun m=>rfl) rfl trivial (M.W [some 0,some 1,some 2,some 3,some 4,none]) ?_ ?_
 ·intro m hm _
  have hs2:=lsum_mem Tm.full (List.getElem_mem hm)
  have hc:=putFmCw at_ s hat hs hsi f.terms[m] bl (by omega) (by omega) (fun p hp=>hix _ (by rw[htm];exact List.mem_append_left _ (List.mem_map.2 ⟨_,List.getElem_mem hm,rfl⟩)) p hp)
  repeat'(first|refine M.gw ?_|refine M.cv (hc) [0,1] 0 ?_|fail)
  exact⟨rfl,trivial,(M.W [some 0,some 1,some 2,some 3,some 4,some 7] (he:=(by(repeat'(first|exact trivial|exact Or.inr ⟨_,U,rfl⟩|refine And.intro ?_ ?_|refine⟨_,U,_,U,_,U,?_⟩|exact VLe.refl _|exact VLe.of_eq (by simp[Sto.upd,map_take _ _ _ hm])));done)))⟩
 ·intro _
  simp only[List.take_length]
  cases hqk:quantK f.kind with
  |true=>
   rw[hqk] at hq
   have hu:upF f.kind bl=bl+1:=by simp[upF,hqk]
   rw[hu] at hre htm
   repeat'(first|refine M.gw ?_|refine M.c2 (hq) ?_|fail)
   refine AW.range f.args.length (fun m=>True)
    (fun m=>([(1,.i (bl+1)),(2,.fn (.func 141) [] [.ptr 0 0,.ptr 1 0]),(3,.ptr 2 0),(6,.ptr 3 0),(7,.ptr 4 0),(41,.s .fm f.args),(42,.i f.args.length),(43,.i m)],⟨7,[(0,.var [.i at_]),(1,.var s.view),(2,.var f.view),(3,.var [.i 0,.i 0,.slice .nil (.t .ty []),.slice .nil (.t .tm []),.slice .nil (.t .fm [])]),(4,.var [.i f.kind,.i f.ty.kind,.s .ty f.ty.args,.slice (.own 5) (.t .tm (f.terms.map ((fun b t=>t.re (putG (at_+b) s) 0) bl))),.slice (.own 6) (.t .fm ((f.args.take m).map (Fm.re (fun b t=>t.re (putG (at_+b) s) 0) (bl+1))))]),(5,.row),(6,.row)]⟩))
    (by omega) (fun m=>rfl) (fun m=>rfl) rfl trivial (M.W [some 0,some 1,some 2,some 3,some 4,some 5,none]) ?_ ?_
   ·intro m hm _
    have hs2:=lsum_mem Fm.full (List.getElem_mem hm)
    have hc:=ih f.args[m] (bl+1) (by omega) (by omega) (by omega) (by omega) (fun p hp=>hix p (by rw[htm];exact List.mem_append_right _ (List.mem_flatMap.2 ⟨_,List.getElem_mem hm,hp⟩)))
    repeat'(first|refine M.gw ?_|refine M.cv (hc) [0,1] 0 ?_|fail)
    exact⟨rfl,trivial,(M.W [some 0,some 1,some 2,some 3,some 4,some 5,some 8] (he:=(by(repeat'(first|exact trivial|exact Or.inr ⟨_,U,rfl⟩|refine And.intro ?_ ?_|refine⟨_,U,_,U,_,U,?_⟩|exact VLe.refl _|exact VLe.of_eq (by simp[Sto.upd,map_take _ _ _ hm])));done)))⟩
   ·intro _
    simp only[List.take_length]
    repeat'(first|refine M.gw ?_|fail)
    (exact M.n2 [some 0,some 1] (h8:=(by simp[tupV,V.wk,V.wks,constV,Ty.view,Tm.view,hre])))
  |false=>
   rw[hqk] at hq
   have hu:upF f.kind bl=bl:=by simp[upF,hqk]
   rw[hu] at hre htm
   repeat'(first|refine M.gw ?_|refine M.c2 (hq) ?_|fail)
   refine AW.range f.args.length (fun m=>True)
    (fun m=>([(1,.i bl),(2,.fn (.func 141) [] [.ptr 0 0,.ptr 1 0]),(3,.ptr 2 0),(6,.ptr 3 0),(7,.ptr 4 0),(41,.s .fm f.args),(42,.i f.args.length),(43,.i m)],⟨7,[(0,.var [.i at_]),(1,.var s.view),(2,.var f.view),(3,.var [.i 0,.i 0,.slice .nil (.t .ty []),.slice .nil (.t .tm []),.slice .nil (.t .fm [])]),(4,.var [.i f.kind,.i f.ty.kind,.s .ty f.ty.args,.slice (.own 5) (.t .tm (f.terms.map ((fun b t=>t.re (putG (at_+b) s) 0) bl))),.slice (.own 6) (.t .fm ((f.args.take m).map (Fm.re (fun b t=>t.re (putG (at_+b) s) 0) bl)))]),(5,.row),(6,.row)]⟩))
    (by omega) (fun m=>rfl) (fun m=>rfl) rfl trivial (M.W [some 0,some 1,some 2,some 3,some 4,some 5,none]) ?_ ?_
   ·intro m hm _
    have hs2:=lsum_mem Fm.full (List.getElem_mem hm)
    have hc:=ih f.args[m] bl (by omega) (by omega) (by omega) (by omega) (fun p hp=>hix p (by rw[htm];exact List.mem_append_right _ (List.mem_flatMap.2 ⟨_,List.getElem_mem hm,hp⟩)))
    repeat'(first|refine M.gw ?_|refine M.cv (hc) [0,1] 0 ?_|fail)
    exact⟨rfl,trivial,(M.W [some 0,some 1,some 2,some 3,some 4,some 5,some 8] (he:=(by(repeat'(first|exact trivial|exact Or.inr ⟨_,U,rfl⟩|refine And.intro ?_ ?_|refine⟨_,U,_,U,_,U,?_⟩|exact VLe.refl _|exact VLe.of_eq (by simp[Sto.upd,map_take _ _ _ hm])));done)))⟩
   ·intro _
    simp only[List.take_length]
    repeat'(first|refine M.gw ?_|fail)
    (exact M.n2 [some 0,some 1] (h8:=(by simp[tupV,V.wk,V.wks,constV,Ty.view,Tm.view,hre])))
theorem putFm_w(f:Fm)(at_:Int)(s:Tm)(hat:0≤at_∧at_<274877906944)(hs:s.full<274877906944)(hsi:∀p∈s.vars 0,0≤p.1∧p.1<549755813888)(hf:f.full<137438953472)(hix:∀p∈f.tms 0,∀q∈p.1.vars 0,0≤q.1∧q.1<9223372036854775808):PC E 96 [.agg f.view,.i at_,.agg s.view] (.agg (f.put at_ s).view):=by
 have hc:=putFmRw at_ s hat hs hsi _ f 0 (Nat.le_refl _) (by omega) (by omega) (by omega) hix
 refine M.F Tryz.func96 ?_
 repeat'(first|refine M.gw ?_|refine M.cv (hc) [1,2] 0 ?_|fail)
 rfl
theorem fLower_w(f:Fm)(a:Int)(hf:f.full<137438953472)(hix:f.err=0→∀p∈f.tms 0,∀q∈p.1.vars 0,0≤q.1∧q.1<9223372036854775808):PC E 33 [.agg f.view,.i a] (.tup [.agg (if lowerFErr f a=0 then f.put a noTm else noFm).view,.i (lowerFErr f a)]):=by
 have h1:=fcheck_c f (by omega)
 have h2:=fwithin_c a
 have h3:f.err=0→(0≤a∧a≤4096)→_:=fun he h=>countFm_w f a (by omega) (by omega) (hix he)
 have h4:f.err=0→(0≤a∧a≤4096)→_:=fun he h=>putFm_w f a noTm (by omega) (by simp[noTm,Tm.full,Tm.fulls,Ty.size,Ty.sizes]) (by simp[noTm,Tm.vars,Tm.varss]) hf (hix he)
 refine M.F Tryz.func33 ?_
 repeat'(first|refine M.gw ?_|refine M.c2 (h1) ?_|refine M.c2 (h2) ?_|refine M.c2 (h3 (by simp_all) (by simp_all)) ?_|refine M.c2 (h4 (by simp_all) (by simp_all)) ?_|refine M.cs ?_ ?_<;>intro h|fail)
 ·have e':f.err≠0:=by simpa using h
  have e:lowerFErr f a=f.err:=by simp only[lowerFErr];rw[if_pos e']
  simp[tupV,V.wk,V.wks,constV,Ty.view,Fm.view,e,noFm,e']
 ·rename_i h0
  have e':¬f.err≠0:=by simpa using h0
  have e:lowerFErr f a=1:=by simp only[lowerFErr];rw[if_neg e',if_pos (by intro hc;simp[hc] at h)]
  simp[tupV,V.wk,V.wks,constV,Ty.view,Fm.view,e,noFm]
 ·rename_i h0 h5
  have e':¬f.err≠0:=by simpa using h0
  have e2:0≤a∧a≤4096:=by simpa using h5
  have e:lowerFErr f a=6:=by simp only[lowerFErr];rw[if_neg e',if_neg (fun hc=>hc e2),if_pos (by simpa using h)]
  simp[tupV,V.wk,V.wks,constV,Ty.view,Fm.view,e,noFm]
 ·rename_i h0 h5
  have e':¬f.err≠0:=by simpa using h0
  have e2:0≤a∧a≤4096:=by simpa using h5
  have e:lowerFErr f a=0:=by simp only[lowerFErr];rw[if_neg e',if_neg (fun hc=>hc e2),if_neg (by simpa using h)]
  simp[tupV,V.wk,V.wks,constV,Ty.view,Fm.view,e,noFm]
theorem rupF_w(by_:Int)(hby: -549755813888≤by_∧by_≤549755813888):∀(n:Nat) (f:Fm) (fr:Int),f.full≤n→n<274877906944→-274877906944≤fr→fr+n<549755813888→f.shape=true→(∀p∈f.tms 0,∀q∈p.1.vars 0,0≤q.1∧q.1<9223372036854775808∧q.1+by_<9223372036854775808)→
 PC E 94 [.agg f.view,.i fr,.i by_] (.agg (f.re (fun b t=>t.re (liftG b by_) 0) fr).view):=by
 intro n
 induction n with
 |zero=>intro f dp h;have:=f.full_pos;omega
 |succ n ih=>
 intro f fr hsz hn h1 h2 hf hix
 have hsz':=f.full_eq
 have hlen:=lsum_len Fm.full Fm.full_pos f.args
 have hlen2:=lsum_len Tm.full Tm.full_pos f.terms
 have hup:=upF_le f.kind fr
 have hpl:=upF_plus f.kind fr
 have hb:=rfbelow_c f
 have he:=Fm.re_eq (fun b t=>t.re (liftG b by_) 0) fr f
 have htm:=f.tms_eq 0
 refine M.F Tryz.func94 ?_
 repeat'(first|refine M.gw ?_|fail)
 refine AW.range f.terms.length (fun m=>True) (fun m=>([(1,.i fr),(2,.i by_),(3,.ptr 0 0),(6,.ptr 1 0),(7,.ptr 2 0),(18,.s .tm f.terms),(19,.i f.terms.length),(20,.i m)],⟨4,[(0,.var f.view),(1,.var [.i 0,.i 0,.slice .nil (.t .ty []),.slice .nil (.t .tm []),.slice .nil (.t .fm [])]),(2,.var [.i f.kind,.i f.ty.kind,.s .ty f.ty.args,.slice (.own 3) (.t .tm ((f.terms.take m).map fun t=>t.re (liftG fr by_) 0)),.slice .nil (.t .fm [])]),(3,.row)]⟩))
  (by omega) (fun m=>rfl) (fun m=>rfl) rfl trivial (M.W [some 0,some 1,some 2,none]) ?_ ?_
 ·intro m hm _
  have hs2:=lsum_mem Tm.full (List.getElem_mem hm)
  have hc:=rup_w by_ hby _ f.terms[m] fr (Nat.le_refl _) (by omega) (by omega) (by omega) (fshape_terms hf (List.getElem_mem hm)) (fun p hp=>hix (f.terms[m],0) (by rw[htm];exact List.mem_append_left _ (List.mem_map.2 ⟨_,List.getElem_mem hm,rfl⟩)) p hp)
  repeat'(first|refine M.gw ?_|refine M.c2 (hc) ?_|fail)
  exact⟨rfl,trivial,(M.W [some 0,some 1,some 2,some 5] (he:=(by(repeat'(first|exact trivial|exact Or.inr ⟨_,U,rfl⟩|refine And.intro ?_ ?_|refine⟨_,U,_,U,_,U,?_⟩|exact VLe.refl _|exact VLe.of_eq (by simp[Sto.upd,map_take _ _ _ hm])));done)))⟩
 ·intro _
  simp only[List.take_length]
  repeat'(first|refine M.gw ?_|fail)
  refine AW.range f.args.length (fun m=>True) (fun m=>([(1,.i fr),(2,.i by_),(3,.ptr 0 0),(6,.ptr 1 0),(7,.ptr 2 0),(35,.s .fm f.args),(36,.i f.args.length),(37,.i m)],⟨5,[(0,.var f.view),(1,.var [.i 0,.i 0,.slice .nil (.t .ty []),.slice .nil (.t .tm []),.slice .nil (.t .fm [])]),(2,.var [.i f.kind,.i f.ty.kind,.s .ty f.ty.args,.slice (.own 3) (.t .tm (f.terms.map fun t=>t.re (liftG fr by_) 0)),.slice (.own 4) (.t .fm ((f.args.take m).map fun x=>x.re (fun b t=>t.re (liftG b by_) 0) (upF f.kind fr)))]),(3,.row),(4,.row)]⟩))
   (by omega) (fun m=>rfl) (fun m=>rfl) rfl trivial (M.W [some 0,some 1,some 2,some 3,none]) ?_ ?_
  ·intro m hm _
   have hs2:=lsum_mem Fm.full (List.getElem_mem hm)
   have hc:=ih f.args[m] (upF f.kind fr) (by omega) (by omega) (by omega) (by omega) (fshape_args hf (List.getElem_mem hm)) (fun p hp q hq=>by
    obtain⟨p',hp',hpe⟩:=tms_idx (b':=upF f.kind 0) p hp
    rw[←hpe] at hq
    exact hix p' (by rw[htm];exact List.mem_append_right _ (List.mem_flatMap.2 ⟨_,List.getElem_mem hm,hp'⟩)) q hq)
   rw[←hpl] at hc
   simp only[←hpl]
   repeat'(first|refine M.gw ?_|refine M.c2 (hb) ?_|refine M.c2 (hc) ?_|fail)
   exact⟨rfl,trivial,(M.W [some 0,some 1,some 2,some 3,some 6] (he:=(by(repeat'(first|exact trivial|exact Or.inr ⟨_,U,rfl⟩|refine And.intro ?_ ?_|refine⟨_,U,_,U,_,U,?_⟩|exact VLe.refl _|exact VLe.of_eq (by simp[Sto.upd,map_take _ _ _ hm])));done)))⟩
  ·intro _
   simp only[List.take_length]
   repeat'(first|refine M.gw ?_|fail)
   rw[he]
   rfl
theorem rfSize_c(f:Fm)(hf:f.full<549755813888):PC E 16 [.agg f.view] (.tup [.i f.num,.i f.err]):=by
 have h1:=fcheckR_c f hf
 have h2:=fcountR_c _ f (Nat.le_refl _) hf
 refine M.F Tryz.func16 ?_
 repeat'(first|refine M.gw ?_|refine M.c2 (h1) ?_|refine M.c2 (h2) ?_|refine M.cs ?_ ?_<;>intro h|fail)
 all_goals simp[tupV,V.wk,V.wks,constV,Fm.num]<;>simp_all
def Fm.ixw(f:Fm):Prop:=f.err=0→∀p∈f.tms 0,∀q∈p.1.vars 0,0≤q.1∧q.1<9223372036854775808
theorem flft_le(f:Fm)(fr by_:Int):(f.lft fr by_).full≤f.full:=Fm.re_fle (fun b t=>Tm.re_fle (fun i c=>by simp[liftG,Tm.full,Tm.fulls,Ty.size,Ty.sizes]) t 0) f 0
def orFE(a b:Fm):Int:=if liftFErr a 0 1≠0 then liftFErr a 0 1 else if liftFErr b 0 1≠0 then liftFErr b 0 1 else(orA a b).err
theorem orFA_full(a b:Fm):(orA a b).full≤100+a.full+b.full:=by
 have h1:=flft_le a 0 1
 have h2:=flft_le b 0 1
 simp only[orA,orF,zeroF,natT,falseF,eqF,Fm.full,Fm.fulls,Tm.fulls,Tm.full,Ty.size,Ty.sizes,List.map_cons,List.map_nil,List.sum_cons,List.sum_nil]
 omega
theorem rupFw_c(f:Fm)(fr by_:Int)(hf:f.full<100000000000)(h1:0≤fr∧fr<100000000000)(hby: -549755813888≤by_∧by_≤549755813888)(hs:f.shape=true)(hix:∀p∈f.tms 0,∀q∈p.1.vars 0,0≤q.1∧q.1<9223372036854775808∧q.1+by_<9223372036854775808):
 PC E 94 [.agg f.view,.i fr,.i by_] (.agg (f.lft fr by_).view):=by
 have h:=rupF_w by_ (by omega) _ f fr (Nat.le_refl _) (by omega) (by omega) (by omega) hs hix
 have e:f.re (fun b t=>t.re (liftG b by_) 0) fr=f.lft fr by_:=by
  have e1:=Fm.re_shift (fun b t=>t.re (liftG b by_) 0) fr f 0
  rw[Int.zero_add] at e1
  rw[e1,lft_at]
  exact Fm.re_pt (fun b t _=>by rw[Int.add_comm b fr]) f
 rw[e] at h
 exact h
theorem rfLift_c(f:Fm)(fr by_:Int)(hf:f.full<137438953472):PC E 32 [.agg f.view,.i fr,.i by_] (.tup [.agg (if liftFErr f fr by_=0 then f.lft fr by_ else noFm).view,.i (liftFErr f fr by_)]):=by
 have h1:=fcheckR_c f (by omega)
 by_cases he:f.err=0
 case neg=>
  have e:liftFErr f fr by_=f.err:=by simp only[liftFErr];rw[if_pos he]
  rw[e,if_neg he]
  refine M.F Tryz.func32 ?_
  repeat'(first|refine M.go ?_|refine M.c2 (h1) ?_|refine M.z1 4 ?_|refine M.cs ?_ ?_<;>intro h|refine M.gk ?_|fail)
  all_goals first
   |rfl
   |(exfalso;simp at h;exact he h)
 obtain⟨hsh,hsz⟩:=(Fm.err_iff f).1 he
 have h2:=rleastF_c 536870912 (by omega) _ f (Nat.le_refl _) (by omega) hsh
 have hfl:=ferr_full he
 rw[he] at h1
 by_cases hr:(0≤fr∧fr≤4096)∧(0≤by_∧by_≤4096)∧f.near=true
 ·have e:liftFErr f fr by_=0:=by
   simp only[liftFErr]
   rw[if_neg (by simp[he]),if_neg]
   rintro(hc|hc|hc)
   ·exact hc hr.1
   ·exact hc hr.2.1
   ·rw [hr.2.2] at hc;cases hc
  have h3:=rupFw_c f fr by_ (by omega) (by omega) (by omega) hsh (fun p hp q hq=>by have:=nearF_lt he hr.2.2 p hp q hq;omega)
  have hlf:=flft_le f fr by_
  have h4:=copyFm_c _ (f.lft fr by_) (Nat.le_refl _) (by omega)
  have hn:=hr.2.2
  rw[nearF_least] at hn
  rw[hn] at h2
  rw[e,if_pos rfl]
  obtain⟨⟨r1,r2⟩,⟨r3,r4⟩,_⟩:=hr
  clear he
  refine M.F Tryz.func32 ?_
  repeat'(first|refine M.gw ?_|refine M.c2 (h1) ?_|refine M.c2 (h2) ?_|refine M.c2 (h3) ?_|refine M.c2 (h4) ?_|refine M.gs ?_ ?_<;>intro h|fail)
  all_goals first
   |rfl
   |(exfalso;simp at*;omega)
 ·have e:liftFErr f fr by_=1:=by
   simp only[liftFErr]
   rw[if_neg (by simp[he]),if_pos]
   by_cases a1:0≤fr∧fr≤4096
   ·by_cases a2:0≤by_∧by_≤4096
    ·refine .inr (.inr ?_)
     cases hn:f.near with
     |false=>rfl
     |true=>exact absurd ⟨a1,a2,hn⟩ hr
    ·exact .inr (.inl a2)
   ·exact .inl a1
  rw[e,if_neg (by decide)]
  rw[nearF_least] at hr
  refine M.F Tryz.func32 ?_
  repeat'(first|refine M.go ?_|refine M.c2 (h1) ?_|refine M.c2 (h2) ?_|refine M.gs ?_ ?_<;>intro h|refine M.z1 6 ?_|refine M.cs ?_ ?_<;>intro h|refine M.gk ?_|fail)
  all_goals first
   |rfl
   |(exfalso;apply hr;simp at*;exact⟨by omega,by omega,by assumption⟩)
   |(exfalso;apply hr;simp_all;omega)
theorem fput_low{f:Fm}(a:Int)(s:Tm)(hc:cntF a (f.tms 0)=0):f.put a s=f.lft (a+1) (-1):=by
 refine Fm.re_congr f 0 fun p hp=> ?_
 show p.1.re (putG (a+p.2) s) 0=p.1.re (liftG (a+1+p.2) (-1)) 0
 rw[put_low (a+p.2) s (cntF_zero hc p hp),show a+p.2+1=a+1+p.2 by omega]
theorem rfLower_c(f:Fm)(a:Int)(hf:f.full<137438953472)(hix:f.ixw):
 PC E 34 [.agg f.view,.i a] (.tup [.agg (if lowerFErr f a=0 then f.put a noTm else noFm).view,.i (lowerFErr f a)]):=by
 have h1:=fcheckR_c f (by omega)
 by_cases he:f.err=0
 case neg=>
  have e:lowerFErr f a=f.err:=by simp only[lowerFErr];rw[if_pos he]
  rw[e,if_neg he]
  refine M.F Tryz.func34 ?_
  repeat'(first|refine M.go ?_|refine M.c2 (h1) ?_|refine M.z1 4 ?_|refine M.cs ?_ ?_<;>intro h|refine M.gk ?_|fail)
  all_goals first
   |rfl
   |(exfalso;simp at h;exact he h)
 rw[he] at h1
 by_cases ha:0≤a∧a≤4096
 case neg=>
  have e:lowerFErr f a=1:=by simp only[lowerFErr];rw[if_neg (by simp[he]),if_pos ha]
  rw[e,if_neg (by decide)]
  refine M.F Tryz.func34 ?_
  repeat'(first|refine M.go ?_|refine M.c2 (h1) ?_|refine M.gs ?_ ?_<;>intro h|refine M.z1 6 ?_|refine M.cs ?_ ?_<;>intro h|refine M.gk ?_|fail)
  all_goals first
   |rfl
   |(exfalso;simp at h;omega)
   |(exfalso;simp at*;omega)
 obtain⟨hs,hz⟩:=(Fm.err_iff f).1 he
 have hff:=ferr_full he
 have h2:=fhas_c _ f a (Nat.le_refl _) (by omega) (by omega) (by omega) hs
 by_cases hc:cntF a (f.tms 0)=0
 case neg=>
  have e:lowerFErr f a=6:=by simp only[lowerFErr];rw[if_neg (by simp[he]),if_neg (by simp;omega),if_pos (by omega)]
  rw[e,if_neg (by decide)]
  rw[decide_eq_true (show timesF a f≠0 from hc)] at h2
  refine M.F Tryz.func34 ?_
  repeat'(first|refine M.go ?_|refine M.c2 (h1) ?_|refine M.c2 (h2) ?_|refine M.gs ?_ ?_<;>intro h|refine M.z1 8 ?_|refine M.cs ?_ ?_<;>intro h|refine M.gk ?_|fail)
  all_goals first
   |rfl
   |(exfalso;simp at h;omega)
   |(exfalso;simp at*;omega)
 have e:lowerFErr f a=0:=by simp only[lowerFErr];rw[if_neg (by simp[he]),if_neg (by simp;omega),if_neg (by omega)]
 rw[e,if_pos rfl,fput_low a noTm hc]
 rw[decide_eq_false (fun h:timesF a f≠0=>h hc)] at h2
 have h3:=rupFw_c f (a+1) (-1) (by omega) (by omega) (by omega) hs (fun p hp q hq=>by have:=hix he p hp q hq;omega)
 have h4:=copyFm_c _ (f.lft (a+1) (-1)) (Nat.le_refl _) (by have:=flft_le f (a+1) (-1);omega)
 refine M.F Tryz.func34 ?_
 repeat'(first|refine M.go ?_|refine M.c2 (h1) ?_|refine M.c2 (h2) ?_|refine M.c2 (h3) ?_|refine M.c2 (h4) ?_|refine M.gs ?_ ?_<;>intro h|refine M.z2 5 7 ?_|refine M.cs ?_ ?_<;>intro h|refine M.gk ?_|fail)
 all_goals first
  |rfl
  |(exfalso;simp at h;omega)
  |(exfalso;simp at*;omega)
theorem rszF_c(f:Fm)(hs:f.shape=true)(hf:f.full<549755813888):PC E 75 [.agg f.view] (.tup [.agg (if f.err=0 then f else noFm).view,.i f.err]):=by
 have h1:=fcountR_c _ f (Nat.le_refl _) hf
 by_cases hz:f.size≤4096
 ·have e:=(Fm.err_iff f).2 ⟨hs,hz⟩
  rw[if_pos e,e]
  refine M.F Tryz.func75 ?_
  repeat'(first|refine M.gw ?_|refine M.c2 (h1) ?_|refine M.cs ?_ ?_<;>intro h|fail)
  all_goals first
   |(exfalso;simp at h;omega)
   |rfl
 ·have e:f.err=4:=by unfold Fm.err;rw[if_neg (by simp[hs]),if_pos (by omega)]
  rw[if_neg (by rw[e];decide),e]
  refine M.F Tryz.func75 ?_
  repeat'(first|refine M.gw ?_|refine M.c2 (h1) ?_|refine M.cs ?_ ?_<;>intro h|fail)
  all_goals first
   |(exfalso;simp at h;omega)
   |rfl
def notE(f:Fm):Int:=if f.err≠0 then f.err else(notF f).err
theorem notF_fle(f:Fm):(notF f).full≤20+f.full:=by simp[notF,falseF,eqF,Fm.full,Fm.fulls,Tm.fulls,Tm.full,Ty.size,Ty.sizes];omega
theorem rfNot_c(f:Fm)(hf:f.full<137438953472):PC E 20 [.agg f.view] (.tup [.agg (if notE f=0 then notF f else noFm).view,.i (notE f)]):=by
 have h1:=fcheckR_c f (by omega)
 by_cases he:f.err=0
 case neg=>
  have e:notE f=f.err:=by simp only[notE];rw[if_pos he]
  rw[e,if_neg he]
  refine M.F Tryz.func20 ?_
  repeat'(first|refine M.go ?_|refine M.c2 (h1) ?_|refine M.z1 4 ?_|refine M.cs ?_ ?_<;>intro h|refine M.gk ?_|fail)
  all_goals first
   |rfl
   |(exfalso;simp at h;exact he h)
 have e:notE f=(notF f).err:=by simp only[notE];rw[if_neg (by simp[he])]
 rw[e]
 rw[he] at h1
 have hs:=((Fm.err_iff f).1 he).1
 have h2:=false07_c
 have h3:=twoFm_c 3 f falseF (by omega) (by decide)
 have h4:=rszF_c (notF f) (notF_ok hs).1 (by have:=notF_fle f;omega)
 refine M.F Tryz.func20 ?_
 repeat'(first|refine M.gw ?_|refine M.c2 (h1) ?_|refine M.c2 (h2) ?_|refine M.c2 (h3) ?_|refine M.c2 (h4) ?_|fail)
 all_goals first
  |rfl
  |(exfalso;simp at h;omega)
theorem notW_c(f:Fm)(hf:f.full<68719476736):PC E 19 [.agg f.view] (.tup [.agg (if notE f=0 then notF f else noFm).view,.i (notE f)]):=by
 have h1:=fcheck_c f (by omega)
 by_cases he:f.err=0
 case neg=>
  have e:notE f=f.err:=by simp only[notE];rw[if_pos he]
  rw[e,if_neg he]
  refine M.F Tryz.func19 ?_
  repeat'(first|refine M.go ?_|refine M.c2 (h1) ?_|refine M.z1 4 ?_|refine M.cs ?_ ?_<;>intro h|refine M.gk ?_|fail)
  all_goals first
   |rfl
   |(exfalso;simp at h;exact he h)
 have e:notE f=(notF f).err:=by simp only[notE];rw[if_neg (by simp[he])]
 rw[e]
 exact not_c f hf he
theorem orA_shape{a b:Fm}(ha:liftFErr a 0 1=0)(hb:liftFErr b 0 1=0):(orA a b).shape=true:=by
 have key:∀f:Fm,liftFErr f 0 1=0→(f.lft 0 1).shape=true:=fun f h=>by
  have he:f.err=0:=by
   simp only[liftFErr] at h
   by_cases h0:f.err=0
   ·exact h0
   ·rw [if_pos h0] at h;exact absurd h h0
  exact(lft_keeps ((Fm.err_iff f).1 he).1 (by omega)).1
 exact(orF_ok (key a ha) (key b hb)).1
theorem rfOr_c(a b:Fm)(fa:a.full<34359738368)(fb:b.full<34359738368):PC E 27 [.agg a.view,.agg b.view] (.tup [.agg (if orFE a b=0 then orA a b else noFm).view,.i (orFE a b)]):=by
 have h1:=rfLift_c a 0 1 (by omega)
 have h2:=rfLift_c b 0 1 (by omega)
 by_cases ha:liftFErr a 0 1=0
 case neg=>
  have e:orFE a b=liftFErr a 0 1:=by unfold orFE;rw[if_pos ha]
  rw[if_neg ha] at h1
  rw[e,if_neg ha]
  refine M.F Tryz.func27 ?_
  repeat'(first|refine M.go ?_|refine M.c2 (h1) ?_|refine M.z1 4 ?_|refine M.cs ?_ ?_<;>intro h|refine M.gk ?_|fail)
  all_goals first
   |rfl
   |(exfalso;simp at h;exact ha h)
 by_cases hb:liftFErr b 0 1=0
 case neg=>
  have e:orFE a b=liftFErr b 0 1:=by unfold orFE;rw[if_neg (by simp[ha]),if_pos hb]
  rw[if_neg hb] at h2
  rw[if_pos ha,ha] at h1
  rw[e,if_neg hb]
  refine M.F Tryz.func27 ?_
  repeat'(first|refine M.go ?_|refine M.c2 (h1) ?_|refine M.c2 (h2) ?_|refine M.z1 7 ?_|refine M.cs ?_ ?_<;>intro h|refine M.gk ?_|fail)
  all_goals first
   |rfl
   |(exfalso;simp at h;exact hb h)
 have e:orFE a b=(orA a b).err:=by unfold orFE;rw[if_neg (by simp[ha]),if_neg (by simp[hb])]
 rw[e]
 rw[if_pos ha,ha] at h1
 rw[if_pos hb,hb] at h2
 have hsh:=orA_shape ha hb
 have la:=flft_le a 0 1
 have lb:=flft_le b 0 1
 have hof:=orFA_full a b
 have v0:=var_c 0
 have n4:=n_c 4 [] (by simp)
 have q1:=eqFm_c (vT 0) zT (by decide) (by decide)
 have q2:=false07_c
 have hn:=nat_c
 have hsz:=rszF_c (orA a b) hsh (by omega)
 unfold orA at hsz ⊢
 generalize a.lft 0 1=x at*
 generalize b.lft 0 1=y at*
 have z1:zeroF.full≤100:=by decide
 have z2:(notF zeroF).full≤200:=by decide
 have t1:=twoFm_c 3 zeroF x (by omega) (by omega)
 have t2:=twoFm_c 3 zeroF falseF (by decide) (by decide)
 have t3:=twoFm_c 3 (notF zeroF) y (by omega) (by omega)
 have t4:=twoFm_c 2 (twoF 3 zeroF x) (twoF 3 (notF zeroF) y) (by simp only[twoF,Fm.full,Fm.fulls,List.map_nil,List.sum_nil,Ty.size,Ty.sizes];omega) (by simp only[twoF,Fm.full,Fm.fulls,List.map_nil,List.sum_nil,Ty.size,Ty.sizes];omega)
 have t5:=qFm_c 5 natT (twoF 2 (twoF 3 zeroF x) (twoF 3 (notF zeroF) y)) (by decide) (by simp only[twoF,Fm.full,Fm.fulls,List.map_nil,List.sum_nil,Ty.size,Ty.sizes];omega)
 refine M.F Tryz.func27 ?_
 repeat'(first|refine M.gw ?_|refine M.c2 (h1) ?_|refine M.c2 (h2) ?_|refine M.c2 (v0) ?_|refine M.c2 (n4) ?_|refine M.c2 (q1) ?_|refine M.c2 (q2) ?_|refine M.c2 (t1) ?_|refine M.c2 (t2) ?_|refine M.c2 (t3) ?_|refine M.c2 (t4) ?_|refine M.c2 (hn) ?_|refine M.c2 (t5) ?_|refine M.c2 (hsz) ?_|fail)
 all_goals first
  |rfl
  |(exfalso;simp at h;omega)
theorem fre_varsL:∀l:List (Tm×Int),fre (varsL l)=l.flatMap fun p=>fre (p.1.vars p.2)
 |[]=>rfl
 |p::l=>by
  have e:varsL (p::l)=p.1.vars p.2++varsL l:=by simp[varsL]
  rw[e,fre_app,fre_varsL l,List.flatMap_cons]
theorem fvl_useKF(f:Fm):nub [] (f.fvl 0)=useKF f:=by unfold useKF Fm.fvl;rw[fre_varsL]
theorem fixr_of{f:Fm}(h:∀p∈f.tms 0,∀q∈p.1.vars 0,0≤q.1∧q.1<9223372036854775808):f.ixr:=fun b p hp=>by
 obtain⟨q,hq,e⟩:=tms_idx (b':=0) p hp
 rw[←e];exact Tm.ixr_of (h q hq)
theorem fixv_of{f:Fm}(h:∀p∈f.tms 0,∀q∈p.1.vars 0,0≤q.1∧q.1<9223372036854775808):∀p∈varsL (f.tms 0),(0≤p.1∧p.1<9223372036854775808)∧0≤p.2:=fun p hp=>by
 obtain⟨q,hq,hp⟩:=List.mem_flatMap.1 hp
 exact⟨fixr_of h 0 q hq q.2 p hp,by have:=tms_snd q hq;have:=vars_snd q.1 q.2 p hp;omega⟩
theorem orFW_c(a b:Fm)(fa:a.full<34359738368)(fb:b.full<34359738368):PC E 26 [.agg a.view,.agg b.view] (.tup [.agg (if orFE a b=0 then orA a b else noFm).view,.i (orFE a b)]):=by
 have h1:=fLift_c a 0 1 (by omega)
 have h2:=fLift_c b 0 1 (by omega)
 by_cases ha:liftFErr a 0 1=0
 case neg=>
  have e:orFE a b=liftFErr a 0 1:=by unfold orFE;rw[if_pos ha]
  rw[if_neg ha] at h1
  rw[e,if_neg ha]
  refine M.F Tryz.func26 ?_
  repeat'(first|refine M.go ?_|refine M.c2 (h1) ?_|refine M.z1 4 ?_|refine M.cs ?_ ?_<;>intro h|refine M.gk ?_|fail)
  all_goals first
   |rfl
   |(exfalso;simp at h;exact ha h)
   |trace_state
 by_cases hb:liftFErr b 0 1=0
 case neg=>
  have e:orFE a b=liftFErr b 0 1:=by unfold orFE;rw[if_neg (by simp[ha]),if_pos hb]
  rw[if_neg hb] at h2
  rw[if_pos ha,ha] at h1
  rw[e,if_neg hb]
  refine M.F Tryz.func26 ?_
  repeat'(first|refine M.gw ?_|refine M.c2 (h1) ?_|refine M.c2 (h2) ?_|refine M.cs ?_ ?_<;>intro h|fail)
  all_goals first
   |rfl
   |(exfalso;simp at h;exact hb h)
   |trace_state
 have e:orFE a b=(orA a b).err:=by unfold orFE;rw[if_neg (by simp[ha]),if_neg (by simp[hb])]
 rw[e]
 exact or_c a b ha hb fa fb (flft_le a 0 1) (flft_le b 0 1)
theorem rfUses_c(f:Fm)(hf:f.full<137438953472)(hix:f.ixw):PC E 18 [.agg f.view] (.tup [.s .int (if f.err=0 then usesFI f else []),.i f.err]):=by
 have h1:=fcheckR_c f (by omega)
 have hc:f.err=0→_:=fun h=>rmarkF_c _ f [] 0 (Nat.le_refl _) (by omega) (by omega) (by omega) (fixr_of (hix h))
 simp only[List.length_nil,List.replicate_zero,fvl_useKF] at hc
 have hlen:=useKF_size f
 have hsz:=f.size_le_full
 have hs:=sortedR_c (useKF_nodup f) (by omega)
 have e0:sortI (useKF f)=usesFI f:=rfl
 rw[e0] at hs
 refine M.F Tryz.func18 ?_
 repeat'(first|refine M.gw ?_|refine M.c2 (h1) ?_|refine M.cb (hc (by simpa using h)) [1] 0 ?_|refine M.cb (hs) [1] 0 ?_|refine M.cs ?_ ?_<;>intro h|fail)
 ·have e:¬f.err=0:=by simpa using h
  rw[if_neg e];simp[tupV,V.wk,V.wks];rfl
 ·have e:f.err=0:=by simpa using h
  rw[if_pos e];simp[tupV,V.wk,V.wks,e]
theorem wf_vars(t:Tm):t.wf→∀b,∀p∈t.vars b,p.1<9223372036854775808:=by
 induction t using Tm.ind with
 |h t ih=>
  intro hw b p hp
  obtain⟨h1,h2⟩:=(Tm.wf_iff t).1 hw
  rw[Tm.vars_eq,List.mem_append] at hp
  rcases hp with hp|hp
  ·split at hp
   ·simp only[List.mem_singleton] at hp;subst hp;simp only;omega
   ·cases hp
  ·obtain ⟨x,hx,hq⟩:=List.mem_flatMap.1 hp
   exact ih x hx (h2 x hx) _ p hq
def OkT(z:Tm):Prop:=z.full<1000000∧(z.err=0→∀p∈z.vars 0,0≤p.1∧p.1<9223372036854775808)
theorem nodes07_c(t:Fm):PC E 7 [.agg t.view] (.i (t.cn 20000)):=by
 have h1:=cntFm_c _ t 20000 (Nat.le_refl _) (by omega)
 refine M.F Tryz.func7 ?_
 repeat'(first|refine M.gw ?_|refine M.c2 (h1) ?_|fail)
 rfl
theorem terms07_c(t:Tm):PC E 8 [.agg t.view] (.i (t.cn 20000)):=by
 have h1:=cntTm_c _ t 20000 (Nat.le_refl _) (by omega)
 refine M.F Tryz.func8 ?_
 repeat'(first|refine M.gw ?_|refine M.c2 (h1) ?_|fail)
 rfl
theorem kinds07_c(t:Ty):PC E 5 [.agg t.view] (.i (t.cn 20000)):=by
 have h1:=cntTy_c _ t 20000 (Nat.le_refl _) (by omega)
 refine M.F Tryz.func5 ?_
 repeat'(first|refine M.gw ?_|refine M.c2 (h1) ?_|fail)
 rfl
theorem ints07_c(l:List Int)(hl:l.length<1099511627776):PC E 23 [.s .int l,.s .int l] (.bool true):=by
 refine M.F Tryz.func23 ?_
 repeat'(first|refine M.gw ?_|refine M.cs ?_ ?_<;>intro h|fail)
 all_goals first
  |(exfalso;simp at h;done)
  |skip
 refine AW.range l.length (fun m=>True) (fun m=>([(0,.s .int l),(1,.s .int l),(11,.s .int l),(12,.i l.length),(13,.i m)],⟨0,[]⟩))
  (by omega) (fun m=>rfl) (fun m=>rfl) rfl trivial (M.W []) ?_ ?_
 ·intro m hm _
  repeat'(first|refine M.gw ?_|refine M.cs ?_ ?_<;>intro h|fail)
  ·exfalso;simp at h
  ·exact ⟨rfl,trivial,(M.W [])⟩
 ·intro _
  repeat'(first|refine M.gw ?_|fail)
  rfl
theorem fmTypedH_c(g:List Ty)(f:Fm)(hf:f.full<34359738368)(hs:(g.map Ty.size).sum<137438953472):PC E 28 [.s .ty g,.agg f.view] (.i (typedFC g f)):=by
 by_cases hg:ctxErr g=0
 case neg=>
  have h1:=context2_c g (by omega)
  unfold typedFC
  rw[if_pos hg]
  refine M.F Tryz.func28 ?_
  repeat'(first|refine M.go ?_|refine M.c2 (h1) ?_|refine M.z1 4 ?_|refine M.cs ?_ ?_<;>intro h|refine M.gk ?_|fail)
  all_goals first
   |rfl
   |(exfalso;simp at h;exact hg h)
 by_cases he:f.err=0
 case neg=>
  have h1:=context2_c g (by omega)
  have h2:=fcheck_c f (by omega)
  have e:typedFC g f=f.err:=by unfold typedFC;rw[if_neg (by simp[hg])];unfold typedF;rw[if_pos he]
  rw[e]
  rw[hg] at h1
  refine M.F Tryz.func28 ?_
  repeat'(first|refine M.go ?_|refine M.c2 (h1) ?_|refine M.c2 (h2) ?_|refine M.z1 7 ?_|refine M.cs ?_ ?_<;>intro h|refine M.gk ?_|fail)
  all_goals first
   |rfl
   |(exfalso;simp at h;exact he h)
 obtain⟨g1,g2⟩:=ctxErr_all hg
 have h:=fmTyped_c g f hf hg g2 (by omega) hs he
 have e:typedFC g f=f.tyE g:=by unfold typedFC;rw[if_neg (by simp[hg])];unfold typedF;rw[if_neg (by simp[he])]
 rw[e]
 exact h
theorem bentF_ok(d:Dk)(hd:d.ok)(t:Fm)(ht:t.full≤60000)(hx:t.ixr):(bentF d t).1.full≤130000∧(bentF d t).1.ixr∧(bentF d t).2.ok:=by
 have hs:=fmK.walk_sz t.full t.full d (fun x=>x) t (fun x=>Nat.add_comm _ _)
 have ho:=fmK.walk_ok t.full d (fun x=>x) t hd
 obtain⟨hg1,hg2⟩:=fmK.walk_all Fm.ixr fmK_ixr_set (fun x hx a ha=>Fm.ixr_args hx ha) t.full d (fun x=>x) t (fun x h=>h) hx
 unfold bentF
 generalize fmK.walk t.full d (fun x=>x) t=w at hs ho hg1 hg2
 obtain⟨F,s,D⟩:=w
 have hs:∀x:Fm,(F x).full+s.full=t.full+x.full:=hs
 have hg1:∀x:Fm,x.ixr→(F x).ixr:=hg1
 have hg2:s.ixr:=hg2
 have h5:(D.next 4).2.ok:=Dk.next_ok ho 4
 have hsf:=Fm.full_eq s
 have key:∀x:Fm,x.full≤s.full+60000→(F x).full≤130000:=fun x hx=>by have:=hs x;omega
 obtain⟨ht1,ha1⟩:=(Fm.ixr_iff s).1 hg2
 simp only[bentFmB]
 split
 ·refine ⟨key _ ?_,hg1 _ ((Fm.ixr_iff _).2 ⟨ht1,ha1⟩),Dk.next_ok h5 9⟩
  rw[Fm.full_eq];simp only[Fm.ty_mk,Fm.args_mk,Fm.terms_mk];omega
 ·split
  ·have:=(Dk.type1 (D.next 4).2).2
   refine⟨key _ ?_,hg1 _ ((Fm.ixr_iff _).2 ⟨ht1,ha1⟩),Dk.type_ok 1 _ h5⟩
   rw[Fm.full_eq];simp only[Fm.ty_mk,Fm.args_mk,Fm.terms_mk];omega
  ·split
   ·have hb:=Dk.next_bd (D.next 4).2 3 (by omega)
    refine⟨key _ ?_,hg1 _ ((Fm.ixr_iff _).2 ⟨fun t ht=> ?_,ha1⟩),Dk.next_ok h5 3⟩
    ·rw [Fm.full_eq];simp only[Fm.ty_mk,Fm.args_mk,Fm.terms_mk,List.map_append,List.sum_append,List.map_cons,List.map_nil,List.sum_cons,List.sum_nil,vT,Tm.full,Tm.fulls,Ty.size,Ty.sizes];omega
    ·rcases List.mem_append.1 ht with ht|ht
     ·exact ht1 t ht
     ·rw [List.mem_singleton.1 ht];exact vT_ixr ⟨hb.1,by omega⟩
   ·have hsm:=Dk.ctx_smalls (D.next 4).2
    have hl:=Dk.ctx_len (D.next 4).2
    have gd:=Dk.fm_good 1 (D.next 4).2.ctx.2 (D.next 4).2.ctx.1 hsm
    have ok:=Dk.fm_okT 1 (D.next 4).2.ctx.2 (D.next 4).2.ctx.1 hsm
    obtain⟨q1,q2,q3⟩:=gd
    exact⟨key _ (by omega),hg1 _ (okT_ixr ok q1 (by omega)),Dk.fm_ok 1 _ _ (Dk.ctx_ok h5)⟩
end Go.Ab
