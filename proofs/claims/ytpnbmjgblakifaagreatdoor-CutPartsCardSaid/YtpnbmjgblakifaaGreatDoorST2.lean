/- A part of the proofs of this seat. No conditions. -/
import Derived.Test.YtpnbmjgblakifaaGreatDoorST1
namespace Go.Ab
open Go Go.Proofs
set_option maxRecDepth 100000
set_option maxHeartbeats 4000000
set_option linter.all false
theorem QN(tys:List Ty)(hyps:List Fm)(f:Fm)(hl:hyps.length<=1000):PC E 57 [.agg [.s .ty tys,.s .fm hyps],.agg f.view] (.agg [.s .ty tys,.s .fm (hyps++[f])]):=by
 refine M.F Tryz.func57 ?_;(repeat' first|refine M.gw ?_|fail);all_goals first
  |rfl
  |simp[zj,V.wk,V.Ap,za,Ty.view,Tm.view]
  |trace_state
theorem J4(tys:List Ty)(hyps:List Fm)(l:List Ty)(hh:∀f∈hyps,f.err=0/\f.Bl tys)(hg:tys.length<=20)(hl:l.length<=2)(hn:hyps.length<=20):
 PC E 60 [.agg [.s .ty tys,.s .fm hyps],.s .ty l] (.agg [.s .ty (tys++l),.s .fm (hyps.map fun f=>f.AV 0 l.length)]):=by
 have h1:=Ii tys l (by omega);refine M.F Tryz.func60 ?_;(repeat' first|refine M.gw ?_|refine M.c2 (h1) ?_|fail);refine AW.range hyps.length (fun m=>True)
  (fun m=>([(1,.s .ty l),(4,.ptr 1 0),(5,.ptr 2 0),(14,.s .fm hyps),(15,.i hyps.length),(16,.i m)],⟨4,[(0,.var [.s .ty tys,.s .fm hyps]),(1,.var [.slice .nil (.t .ty []),.slice .nil (.t .fm [])]),(2,.var [.s .ty (tys++l),.slice (.own 3) (.t .fm ((hyps.take m).map fun f=>f.AV 0 l.length))]),(3,.row)]⟩))
  (by omega) (fun m=>rfl) (fun m=>rfl) rfl trivial (M.W [some 0,some 1,some 2,none]) ?_ ?_
 ·intro m hm _;have hf:=hh hyps[m] (List.getElem_mem hm);have hc:=Ff hf.2 ((Fm.Ae _).1 hf.1).1 (by have:=((Fm.Ae _).1 hf.1).2;omega) (by omega) 0 l.length (by omega) (by omega);(repeat' first|refine M.gw ?_|refine M.c2 (hc) ?_|fail);exact⟨rfl,trivial,(M.W [some 0,some 1,some 2,some 5] (he:=(by(repeat'(first|exact trivial|exact Or.inr ⟨_,U,rfl⟩|refine And.intro ?_ ?_|refine⟨_,U,_,U,_,U,?_⟩|exact An.refl _|exact An.of_eq (by simp[Ao.Ax,z8 _ _ _ hm])));done)))⟩
 ·intro _;simp only[List.take_length];(repeat' first|refine M.gw ?_|fail);all_goals first
   |rfl
   |simp[zj,V.wk,V.Ap,za,Ty.view,Tm.view]
   |trace_state
theorem Sc{g:List Ty}{t:Tm}(he:t.err=0)(hi:t.inf g=(Af,0))(hg:g.length<=20):PC E 64 [.agg t.view] (.agg (t.re (zl 0 1) 0).view):=by
 have hf:=z9 he;have hs:=(Tm.Ae t).1 he;have h1:=GO t t (by omega) (by omega);have h2:=Ff (f:=AP t t) (g:=g) (CL.2 ⟨hi,hi⟩) (Jt hs.1 hs.1) (by have:=I6 t t;omega) (by omega) 0 1 (by omega) (by omega);rw[Yf1] at h2;rw[show(0:Int)+0=0 from rfl] at h2;generalize t.re (zl 0 1) 0=u at*;refine M.F Tryz.func64 ?_;(repeat' first|refine M.gw ?_|refine M.c2 (h1) ?_|refine M.c2 (h2) ?_|fail);all_goals first
  |rfl
  |simp[zj,V.wk,V.Ap,za,Ty.view,Tm.view]
  |trace_state
theorem Yaa(k:Int)(f:Fm)(t:Tm)(p:Pf)(hf:f.full<500000000000)(ht:t.full<500000000000)(hp:p.full<500000000000):
 AC E 66 [.i k,.agg f.view,.agg t.view,.agg p.view] ⟨0,[]⟩ (.agg [.i k,.i 0,.i 0,.s .ty [],.s .tm [t],.arr 0 1 5,.s .pf [p]]) ⟨1,[(0,.var f.view)]⟩:=by
 have h1:=MR k t p ht hp;have h2:=vx _ f (Nat.le_refl _) (by omega);refine M.F Tryz.func66 ?_;(repeat' first|refine M.go ?_|refine M.c2 (h1) ?_|refine M.z1 2 ?_|refine M.gk ?_|fail);refine K.sq (AW.AU ?_);refine L.Dl rfl rfl rfl rfl rfl rfl ?_;refine L.c2 h2 rfl rfl rfl rfl ?_;refine L.Rq 0 rfl rfl rfl rfl rfl rfl rfl ?_;(repeat' first|refine M.gw ?_|fail);refine K.rt [some 5] rfl rfl rfl rfl rfl ?_ rfl ?_
 ·exact ⟨⟨_,rfl,_,rfl,_,rfl,Bh.refl _⟩,trivial⟩
 ·first
   |exact An.refl _
   |(refine An.of_eq ?_;simp[zj,Ty.view,Tm.view];rfl)
theorem M6(c:Ck)(hc:c.ok)(l:List Ty)(hl:0<l.length)(hl2:l.length<=2):PC E 240 [.agg c.view,.s .ty l] (.agg (c.below l).view):=by
 have hlen:=hc.len;have hnh:=hc.nh;refine M.F Tryz.func240 ?_;(repeat' first|refine M.gw ?_|fail);refine AW.range c.hyps.length (fun m=>True)
  (fun m=>([(1,.s .ty l),(2,.ptr 0 0),(4,.ptr 1 0),(5,.ptr 3 0),(23,.s .fm c.hyps),(24,.i c.hyps.length),(25,.i m)],⟨5,[(0,.var c.view),(1,.var [.slice .nil (.t .fm []),.slice .nil (.t .ty []),.slice .nil (.t .fm [])]),(2,.row),(3,.var [.s .fm c.lems,.slice (.own 2) (.t .ty (c.tys++l)),.slice (.own 4) (.t .fm ((c.hyps.take m).map fun f=>f.AV 0 l.length))]),(4,.row)]⟩))
  (by omega) (fun m=>rfl) (fun m=>rfl) rfl trivial (M.W [some 0,some 1,some 2,some 3,none]) ?_ ?_
 ·intro m hm _;obtain⟨h1,h2⟩:=hc.hyps c.hyps[m] (List.getElem_mem hm);have s:=(Fm.Ae _).1 h1;have hcall:=Ff h2 s.1 (by omega) (by omega) 0 l.length (by omega) (by omega);(repeat' first|refine M.gw ?_|refine M.c2 (hcall) ?_|fail);exact⟨rfl,trivial,(M.W [some 0,some 1,some 2,some 3,some 6] (he:=(by(repeat'(first|exact trivial|exact Or.inr ⟨_,U,rfl⟩|refine And.intro ?_ ?_|refine⟨_,U,_,U,_,U,?_⟩|exact An.refl _|exact An.of_eq (by simp[Ao.Ax,z8 _ _ _ hm])));done)))⟩
 ·intro _;simp only[List.take_length];(repeat' first|refine M.gw ?_|fail)
  rfl
theorem Tt:∀{l:List Tm} {m:Nat} (hm:m<l.length),(∀j (hj:j<l.length),j<m->(xz l[j] 1000).2.2=0)->(xz l[m] 1000).2.2≠0->DE l=([],(xz l[m] 1000).2.2)
 |[],m,hm,_,_=>by simp at hm
 |x::l,0,hm,_,h=>by simp only[DE,List.getElem_cons_zero] at h ⊢;rw[if_pos h]
 |x::l,m+1,hm,h0,h=>by
  have h1:=h0 0 (by simp) (by omega);simp only[List.getElem_cons_zero] at h1;simp only[List.getElem_cons_succ] at h ⊢;have h2:=Tt (l:=l) (m:=m) (by simpa using hm) (fun j hj hjm=>by have:=h0 (j+1) (by simpa using hj) (by omega);simpa using this) h;simp only[DE];rw[if_neg (by simp[h1]),h2,if_pos h]
theorem UU:∀{l:List Tm},(∀j (hj:j<l.length),j<l.length->(xz l[j] 1000).2.2=0)->DE l=(l.map fun t=>(xz t 1000).1,0)
 |[],_=>rfl
 |x::l,h0=>by
  have h1:=h0 0 (by simp) (by simp);simp only[List.getElem_cons_zero] at h1;have h2:=UU (l:=l) fun j hj _=>by have:=h0 (j+1) (by simpa using hj) (by simpa using hj);simpa using this
  simp only[DE];rw[if_neg (by simp[h1]),h2];rfl
theorem Ve:∀{l:List Fm} {m:Nat} (hm:m<l.length),(∀j (hj:j<l.length),j<m->(we l[j]).2=0)->(we l[m]).2≠0->y9 l=([],(we l[m]).2)
 |[],m,hm,_,_=>by simp at hm
 |x::l,0,hm,_,h=>by simp only[y9,List.getElem_cons_zero] at h ⊢;rw[if_pos h]
 |x::l,m+1,hm,h0,h=>by
  have h1:=h0 0 (by simp) (by omega);simp only[List.getElem_cons_zero] at h1;simp only[List.getElem_cons_succ] at h ⊢;have h2:=Ve (l:=l) (m:=m) (by simpa using hm) (fun j hj hjm=>by have:=h0 (j+1) (by simpa using hj) (by omega);simpa using this) h;simp only[y9];rw[if_neg (by simp[h1]),h2,if_pos h]
theorem Uw:∀{l:List Fm},(∀j (hj:j<l.length),j<l.length->(we l[j]).2=0)->y9 l=(l.map fun t=>(we t).1,0)
 |[],_=>rfl
 |x::l,h0=>by
  have h1:=h0 0 (by simp) (by simp);simp only[List.getElem_cons_zero] at h1;have h2:=Uw (l:=l) fun j hj _=>by have:=h0 (j+1) (by simpa using hj) (by simpa using hj);simpa using this
  simp only[y9];rw[if_neg (by simp[h1]),h2];rfl
theorem Zxq:∀(n:Nat) (f:Fm),f.full<=n->n<274877906944->PC E 248 [.agg f.view] (.Az [.agg (we f).1.view,.i (we f).2]):=by
 intro n;induction n with
 |zero=>intro f h;have:=f.Aa;omega
 |succ n ih=>
 intro f hsz hn;have hsz':=f.Ag;have hlen:=zd Fm.full Fm.Aa f.args;have hlen2:=zd Tm.full Tm.Aa f.terms;have he:=XM f;refine M.F Tryz.func248 ?_;(repeat' first|refine M.gw ?_|fail);refine AW.range f.terms.length (fun m=>∀j (hj:j<f.terms.length),j<m->(xz f.terms[j] 1000).2.2=0)
  (fun m=>([(1,.ptr 0 0),(2,.ptr 1 0),(4,.ptr 2 0),(20,.s .tm f.terms),(21,.i f.terms.length),(22,.i m)],⟨4,[(0,.var f.view),(1,.var [.i 0,.i 0,.slice .nil (.t .ty []),.slice .nil (.t .tm []),.slice .nil (.t .fm [])]),(2,.var [.i f.kind,.i f.ty.kind,.s .ty f.ty.args,.slice (.own 3) (.t .tm ((f.terms.take m).map fun t=>(xz t 1000).1)),.slice .nil (.t .fm [])]),(3,.row)]⟩))
  (by omega) (fun m=>rfl) (fun m=>rfl) rfl (fun j hj h=>by omega) (M.W [some 0,some 1,some 2,none]) ?_ ?_
 ·intro m hm hP;have hs2:=zc Tm.full (List.getElem_mem hm);have hc:=QV f.terms[m] 1000 (by omega);by_cases hx:(xz f.terms[m] 1000).2.2=0
  ·rw[hx] at hc;(repeat' first|refine M.gw ?_|refine M.c2 (hc) ?_|fail);exact⟨rfl,yc (p:=fun t=>(xz t 1000).2.2=0) hm hP hx,(M.W [some 0,some 1,some 2,some 6] (he:=(by(repeat'(first|exact trivial|exact Or.inr ⟨_,U,rfl⟩|refine And.intro ?_ ?_|refine⟨_,U,_,U,_,U,?_⟩|exact An.refl _|exact An.of_eq (by simp[Ao.Ax,z8 _ _ _ hm])));done)))⟩
  ·have e1:=Tt hm hP hx;rw[e1,if_pos hx] at he;rw[he];(repeat' first|refine M.gw ?_|refine M.c2 (hc) ?_|refine M.cs ?_ ?_<;>intro h|fail);all_goals first
    |rfl
    |(exfalso;simp at h;exact hx h)
 ·intro hP;have e1:=UU (l:=f.terms) fun j hj _=>hP j hj hj;rw[e1,if_neg (by simp)] at he;simp only[List.take_length];(repeat' first|refine M.gw ?_|fail);refine AW.range f.args.length (fun m=>∀j (hj:j<f.args.length),j<m->(we f.args[j]).2=0)
   (fun m=>([(1,.ptr 0 0),(2,.ptr 1 0),(4,.ptr 2 0),(44,.s .fm f.args),(45,.i f.args.length),(46,.i m)],⟨5,[(0,.var f.view),(1,.var [.i 0,.i 0,.slice .nil (.t .ty []),.slice .nil (.t .tm []),.slice .nil (.t .fm [])]),(2,.var [.i f.kind,.i f.ty.kind,.s .ty f.ty.args,.slice (.own 3) (.t .tm (f.terms.map fun t=>(xz t 1000).1)),.slice (.own 4) (.t .fm ((f.args.take m).map fun x=>(we x).1))]),(3,.row),(4,.row)]⟩))
   (by omega) (fun m=>rfl) (fun m=>rfl) rfl (fun j hj h=>by omega) (M.W [some 0,some 1,some 2,some 3,none]) ?_ ?_
  ·intro m hm hP2;have hs2:=zc Fm.full (List.getElem_mem hm);have hc:=ih f.args[m] (by omega) (by omega);by_cases hx:(we f.args[m]).2=0
   ·rw[hx] at hc;(repeat' first|refine M.gw ?_|refine M.c2 (hc) ?_|fail);exact⟨rfl,yc (p:=fun t=>(we t).2=0) hm hP2 hx,(M.W [some 0,some 1,some 2,some 3,some 7] (he:=(by(repeat'(first|exact trivial|exact Or.inr ⟨_,U,rfl⟩|refine And.intro ?_ ?_|refine⟨_,U,_,U,_,U,?_⟩|exact An.refl _|exact An.of_eq (by simp[Ao.Ax,z8 _ _ _ hm])));done)))⟩
   ·have e2:=Ve hm hP2 hx;rw[e2,if_pos hx] at he;rw[he];(repeat' first|refine M.gw ?_|refine M.c2 (hc) ?_|refine M.cs ?_ ?_<;>intro h|fail);all_goals first
     |rfl
     |(exfalso;simp at h;exact hx h)
  ·intro hP2;have e2:=Uw (l:=f.args) fun j hj _=>hP2 j hj hj;rw[e2,if_neg (by simp)] at he;simp only[List.take_length];rw[he];(repeat' first|refine M.gw ?_|fail)
   rfl
abbrev DG(f:Fm)(u:List Int)(e:Int):V:= .Az [.agg (f.view++[.s .int u]),.i e]
abbrev Cx(r:CC):V:= .Az [.agg r.1.view,.s .int r.2.1,.i r.2.2]
theorem Ck.ok.sum{c:Ck}(hc:c.ok):(c.tys.map Ty.size).sum<=1024:=by
 have h1:=hc.len;have h2:=PK (f:=Ty.size) (C:=64) c.tys fun x hx=>((Ty.Ae x).1 (hc.all x hx)).2;omega
theorem Gr{c:Ck}(hc:c.ok){f:Fm}{u:List Int}{e:Int}(h:FH c (f,u,e)):f.full<=266240/\u.length<=16/\∀x∈u,0<=x/\x<=1000000:=by
 have hl:=hc.len;by_cases he:e=0
 ·obtain ⟨h1,_,h3⟩:=h.1 he;have h4:=h3.len;refine⟨yf h1,by simp only at h4;omega,fun x hx=> ?_⟩;have:=h3.2 x hx;omega
 ·have h1:=h.2 he;simp only[yb,Prod.mk.injEq] at h1;rw[h1.1,h1.2.1];exact⟨by decide,by simp,fun x hx=>by cases hx⟩
theorem Yeo{c:Ck}(hc:c.ok)(i:Int)(hi:0<=i):PC E 180 [.agg c.view,.agg (Pf.mk 1 i (.mk 0 []) [] [] []).view] (Cx (Le c i)):=by
 have hn:=hc.nh;unfold Le;by_cases h1:i>=c.hyps.length
 ·rw[if_pos h1];refine M.F Tryz.func180 ?_;(repeat' first|refine M.gw ?_|refine M.bl ?_|refine M.cs ?_ ?_<;>intro h|fail);all_goals first
   |rfl
   |(exfalso;simp at h;omega)
 ·rw[if_neg h1];have hlt:c.hyps.length-1-i.toNat<c.hyps.length:=by omega
  rw[G8 hlt];simp only[Pf.view,Pf.kind,Pf.index,Pf.ty,Pf.terms,Pf.Ac,Pf.args];refine M.F Tryz.func180 ?_;(repeat' first|refine M.gw ?_|refine M.bl ?_|refine M.cs ?_ ?_<;>intro h|fail)
  ·exfalso;simp at h;omega
  ·refine L.Dd (c.hyps.length-1-i.toNat) rfl rfl rfl rfl (by omega) rfl rfl (by omega) ?_;(repeat' first|refine M.gw ?_|fail)
   rfl
theorem Ygq{c:Ck}(hc:c.ok)(i:Int)(hi:0<=i):PC E 180 [.agg c.view,.agg (Pf.mk 2 i (.mk 0 []) [] [] []).view] (Cx (Lb c i)):=by
 have hn:=hc.nl;unfold Lb;by_cases h1:i>=c.lems.length
 ·rw[if_pos h1];refine M.F Tryz.func180 ?_;(repeat' first|refine M.gw ?_|refine M.bl ?_|refine M.cs ?_ ?_<;>intro h|fail);all_goals first
   |rfl
   |(exfalso;simp at h;omega)
 ·rw[if_neg h1];have hlt:i.toNat<c.lems.length:=by omega
  rw[G8 hlt];simp only[Pf.view,Pf.kind,Pf.index,Pf.ty,Pf.terms,Pf.Ac,Pf.args];refine M.F Tryz.func180 ?_;(repeat' first|refine M.gw ?_|refine M.bl ?_|refine M.cs ?_ ?_<;>intro h|fail)
  ·exfalso;simp at h;omega
  ·refine L.Dd i.toNat rfl rfl rfl rfl (by omega) rfl rfl (by omega) ?_;(repeat' first|refine M.gw ?_|fail)
   rfl
section
variable {c:Ck} (hc:c.ok) {p q:Pf} {f0 f1:Fm} {u0 u1:List Int} {e0 e1:Int}
include hc
theorem Yez(hp:PC E 126 [.agg c.view,.agg p.view] (DG f0 u0 e0))(hq:PC E 126 [.agg c.view,.agg q.view] (DG f1 u1 e1))(o0:FH c (f0,u0,e0))(o1:FH c (f1,u1,e1)):
 PC E 180 [.agg c.view,.agg (Pf.mk 3 0 (.mk 0 []) [] [] [p,q]).view] (Cx (Mm (fun _=>(f0,u0,e0)) (fun _=>(f1,u1,e1)) c)):=by
 have b0:=Gr hc o0;have b1:=Gr hc o1;have h2:=Lz 2 f0 f1 (by omega) (by omega);have h3:=HF u0 u1 (by omega) (by omega);unfold Mm;by_cases he:e0=0
 ·subst he;rw[if_neg (by simp)];refine M.F Tryz.func180 ?_;(repeat' first|refine M.gw ?_|refine M.c2 (hp) ?_|refine M.c2 (hq) ?_|refine M.c2 (h2) ?_|refine M.c2 (h3) ?_|refine M.bl ?_|fail)
  rfl
 ·rw[if_pos he];refine M.F Tryz.func180 ?_;(repeat' first|refine M.gw ?_|refine M.c2 (hp) ?_|refine M.c2 (hq) ?_|refine M.c2 (h2) ?_|refine M.c2 (h3) ?_|refine M.bl ?_|refine M.cs ?_ ?_<;>intro h|fail);all_goals first
   |rfl
   |(exfalso;simp at h;exact he h)
theorem Wv(j:Nat)(hj:j<2)(hp:PC E 126 [.agg c.view,.agg p.view] (DG f0 u0 e0))(o0:FH c (f0,u0,e0)):
 PC E 180 [.agg c.view,.agg (Pf.mk (4+j) 0 (.mk 0 []) [] [] [p]).view] (Cx (Lr j (fun _=>(f0,u0,e0)) c)):=by
 unfold Lr;by_cases he:e0=0
 ·subst he;rw[if_neg (by simp)];by_cases hk:f0.kind=2
  ·rw[if_neg (by simp[hk])];obtain⟨x,y,e⟩:=MJ ((Fm.Ae _).1 (o0.1 rfl).1).1 (.inl hk);simp only at e;rw[hk] at e;subst e;rcases j with _|_|j
   ·refine M.F Tryz.func180 ?_;(repeat' first|refine M.gw ?_|refine M.c2 (hp) ?_|refine M.bl ?_|fail)
    rfl
   ·refine M.F Tryz.func180 ?_;(repeat' first|refine M.gw ?_|refine M.c2 (hp) ?_|refine M.bl ?_|fail)
    rfl
   ·omega
  ·rw[if_pos hk];rcases j with _|_|j
   ·refine M.F Tryz.func180 ?_;(repeat' first|refine M.go ?_|refine M.c2 (hp) ?_|refine M.z1 24 ?_|refine M.bl ?_|refine M.cs ?_ ?_<;>intro h|refine M.gk ?_|fail);all_goals first
     |rfl
     |(exfalso;simp at h;exact hk h)
   ·refine M.F Tryz.func180 ?_;(repeat' first|refine M.go ?_|refine M.c2 (hp) ?_|refine M.z1 24 ?_|refine M.bl ?_|refine M.cs ?_ ?_<;>intro h|refine M.gk ?_|fail);all_goals first
     |rfl
     |(exfalso;simp at h;exact hk h)
   ·omega
 ·rw[if_pos he];rcases j with _|_|j
  ·refine M.F Tryz.func180 ?_;(repeat' first|refine M.go ?_|refine M.c2 (hp) ?_|refine M.z1 22 ?_|refine M.bl ?_|refine M.cs ?_ ?_<;>intro h|refine M.gk ?_|fail);all_goals first
    |rfl
    |(exfalso;simp at h;exact he h)
  ·refine M.F Tryz.func180 ?_;(repeat' first|refine M.go ?_|refine M.c2 (hp) ?_|refine M.z1 22 ?_|refine M.bl ?_|refine M.cs ?_ ?_<;>intro h|refine M.gk ?_|fail);all_goals first
    |rfl
    |(exfalso;simp at h;exact he h)
  ·omega
theorem Ycm{f:Fm}(hf:f.full<=300000)(hp:ym c.tys f=0->c.room 0 1=0->PC E 126 [.agg (c.AA f).view,.agg p.view] (DG f0 u0 e0))(b0:ym c.tys f=0->c.room 0 1=0->f0.full<=266240):
 PC E 180 [.agg c.view,.agg (Pf.mk 6 0 (.mk 0 []) [] [f] [p]).view] (Cx (Lg f (fun _=>(f0,u0,e0)) c)):=by
 have hl:=hc.len;have hn:=hc.nh;have h1:=Of c.tys f (by omega) (by have:=hc.sum;omega);have h2:=Lh c 0 1 (by omega) (by omega);have h3:=NT c f (by omega);unfold Lg;by_cases t0:ym c.tys f=0
 ·rw[if_neg (by simp[t0])];rw[t0] at h1;by_cases r0:c.room 0 1=0
  ·rw[if_neg (by simp[r0])];rw[r0] at h2;have h5:=hp t0 r0;have b1:=b0 t0 r0;have h4:=Lz 3 f f0 (by omega) (by omega);refine M.F Tryz.func180 ?_;(repeat' first|refine M.gw ?_|refine M.c2 (h1) ?_|refine M.c2 (h2) ?_|refine M.c2 (h3) ?_|refine M.c2 (h4) ?_|refine M.c2 (h5) ?_|refine M.bl ?_|fail)
   rfl
  ·rw[if_pos r0];rw[MM r0] at h2;refine M.F Tryz.func180 ?_;(repeat' first|refine M.gw ?_|refine M.c2 (h1) ?_|refine M.c2 (h2) ?_|refine M.bl ?_|fail)
   rfl
 ·rw[if_pos t0];refine M.F Tryz.func180 ?_;(repeat' first|refine M.go ?_|refine M.c2 (h1) ?_|refine M.z1 29 ?_|refine M.bl ?_|refine M.cs ?_ ?_<;>intro h|refine M.gk ?_|fail);all_goals first
   |rfl
   |(exfalso;simp at h;exact t0 h)
theorem Ybl(hp:PC E 126 [.agg c.view,.agg p.view] (DG f0 u0 e0))(hq:PC E 126 [.agg c.view,.agg q.view] (DG f1 u1 e1))(o0:FH c (f0,u0,e0))(o1:FH c (f1,u1,e1)):
 PC E 180 [.agg c.view,.agg (Pf.mk 7 0 (.mk 0 []) [] [] [p,q]).view] (Cx (Mq (fun _=>(f0,u0,e0)) (fun _=>(f1,u1,e1)) c)):=by
 have b0:=Gr hc o0;have b1:=Gr hc o1;have h3:=HF u0 u1 (by omega) (by omega);unfold Mq;by_cases he:e0=0;case neg=>
  rw[if_pos he];refine M.F Tryz.func180 ?_;(repeat' first|refine M.go ?_|refine M.c2 (hp) ?_|refine M.z1 38 ?_|refine M.bl ?_|refine M.cs ?_ ?_<;>intro h|refine M.gk ?_|fail);all_goals first
   |rfl
   |(exfalso;simp at h;exact he h)
 subst he;rw[if_neg (by simp)];by_cases hk:f0.kind=3;case neg=>
  rw[if_pos hk];refine M.F Tryz.func180 ?_;(repeat' first|refine M.gw ?_|refine M.c2 (hp) ?_|refine M.bl ?_|refine M.cs ?_ ?_<;>intro h|fail);all_goals first
   |rfl
   |(exfalso;simp at h;exact hk h)
   |trace_state
 rw[if_neg (by simp[hk])];obtain⟨x,y,e⟩:=MJ ((Fm.Ae _).1 (o0.1 rfl).1).1 (.inr hk);simp only at e;rw[hk] at e;subst e;by_cases he1:e1=0;case neg=>
  rw[if_pos he1];refine M.F Tryz.func180 ?_;(repeat' first|refine M.gw ?_|refine M.c2 (hp) ?_|refine M.c2 (hq) ?_|refine M.bl ?_|refine M.cs ?_ ?_<;>intro h|fail);all_goals first
   |rfl
   |(exfalso;simp at h;exact he1 h)
   |trace_state
 subst he1;rw[if_neg (by simp)];have ex:=vw (o0.1 rfl).1 (x:=x) (by simp[ue]);have h4:=Xt x f1 (by have:=yf ex;omega) (by omega);refine M.F Tryz.func180 ?_;(repeat' first|refine M.gw ?_|refine M.c2 (hp) ?_|refine M.c2 (hq) ?_|refine M.c2 (h3) ?_|refine M.c2 (h4) ?_|refine M.bl ?_|fail)
 rfl
end
theorem Ud(f:Fm)(t:Tm):(Dv f t).1.full<=1200000000:=by
 unfold Dv;by_cases h:yq f 0 t=0
 ·rw[if_pos h];exact U4 h
 ·rw[if_neg h];exact Nat.le_trans (by decide:A1.full<=2) (by decide)
section
variable {c:Ck} (hc:c.ok) {p q:Pf} {f0 f1:Fm} {u0 u1:List Int} {e0 e1:Int}
include hc
theorem JL{f:Fm}{t:Tm}(hf:f.full<=1200000000)(ht:t.full<=300000)(hp:PC E 126 [.agg c.view,.agg p.view] (DG f0 u0 e0))(o0:FH c (f0,u0,e0)):
 PC E 246 [.agg c.view,.agg p.view,.agg f.view,.agg t.view] (.Az [.s .int (y5 (fun _=>(f0,u0,e0)) c f t).1,.i (y5 (fun _=>(f0,u0,e0)) c f t).2]):=by
 have b0:=Gr hc o0;have h1:=JZ f t (by omega) (by omega);have hb:=Ud f t;have h2:=Xt (Dv f t).1 f0 (by omega) (by omega);unfold y5;by_cases he:e0=0;case neg=>
  rw[if_pos he];refine M.F Tryz.func246 ?_;(repeat' first|refine M.go ?_|refine M.c2 (hp) ?_|refine M.z1 4 ?_|refine M.cs ?_ ?_<;>intro h|refine M.gk ?_|fail);all_goals first
   |rfl
   |(exfalso;simp at h;exact he h)
 subst he;rw[if_neg (by simp)];by_cases h0:(Dv f t).2=0;case neg=>
  rw[if_pos h0];refine M.F Tryz.func246 ?_;(repeat' first|refine M.go ?_|refine M.c2 (hp) ?_|refine M.c2 (h1) ?_|refine M.z1 7 ?_|refine M.cs ?_ ?_<;>intro h|refine M.gk ?_|fail);all_goals first
   |rfl
   |(exfalso;simp at h;exact h0 h)
 rw[if_neg (by simp[h0])];rw[h0] at h1;refine M.F Tryz.func246 ?_;(repeat' first|refine M.gw ?_|refine M.c2 (hp) ?_|refine M.c2 (h1) ?_|refine M.c2 (h2) ?_|fail)
 rfl
theorem VK{k:Int}(hk:k=8\/k=12){s:Ty}(hs:s.err=0)(hp:c.room 1 0=0->PC E 126 [.agg (c.below [s]).view,.agg p.view] (DG f0 u0 e0))(b0:c.room 1 0=0->f0.full<=266240/\u0.length<=16/\∀x∈u0,0<=x/\x<=1000000):
 PC E 218 [.agg c.view,.agg (Pf.mk k 0 s [] [] [p]).view] (Cx (Lm k s (fun _=>(f0,u0,e0)) c)):=by
 have hl:=hc.len;have hn:=hc.nh;have h1:=Lh c 1 0 (by omega) (by omega);have hsz:=((Ty.Ae s).1 hs).2;unfold Lm;by_cases r0:c.room 1 0=0;case neg=>
  rw[if_pos r0];rw[MM r0] at h1;refine M.F Tryz.func218 ?_;(repeat' first|refine M.gw ?_|refine M.c2 (h1) ?_|fail)
  rfl
 rw[if_neg (by simp[r0])];rw[r0] at h1;have b:=b0 r0;have h2:=M6 c hc [s] (by simp) (by simp);have h3:=hp r0;have h4:=U6 u0;have h5:=Ng u0 1 (by omega) (by omega) b.2.2;have h6:=Gc 4 s f0 (by omega) (by omega);have h7:=Gc 6 s f0 (by omega) (by omega);by_cases he:e0=0;case neg=>
  rw[if_pos he];refine M.F Tryz.func218 ?_;(repeat' first|refine M.go ?_|refine M.c2 (h1) ?_|refine M.c2 (h2) ?_|refine M.c2 (h3) ?_|refine M.z1 7 ?_|refine M.cs ?_ ?_<;>intro h|refine M.gk ?_|fail);all_goals first
   |rfl
   |(exfalso;simp at h;exact he h)
   |trace_state
 subst he;rw[if_neg (by simp)];rcases hk with rfl|rfl
 ·rw[if_pos rfl];refine M.F Tryz.func218 ?_;(repeat' first|refine M.gw ?_|refine M.c2 (h1) ?_|refine M.c2 (h2) ?_|refine M.c2 (h3) ?_|refine M.c2 (h5) ?_|refine M.c2 (h6) ?_|fail)
  rfl
 ·rw[if_neg (by decide)];cases hh:Ku u0 with
  |true=>
   rw[hh] at h4;rw[if_pos rfl];refine M.F Tryz.func218 ?_;(repeat' first|refine M.gw ?_|refine M.c2 (h1) ?_|refine M.c2 (h2) ?_|refine M.c2 (h3) ?_|refine M.c2 (h4) ?_|fail)
   rfl
  |false=>
   rw[hh] at h4;rw[if_neg (by simp)];refine M.F Tryz.func218 ?_;(repeat' first|refine M.gw ?_|refine M.c2 (h1) ?_|refine M.c2 (h2) ?_|refine M.c2 (h3) ?_|refine M.c2 (h4) ?_|refine M.c2 (h5) ?_|refine M.c2 (h7) ?_|fail)
   rfl
theorem X3{k:Int}(hk:k=9\/k=13){t:Tm}(ht:t.full<=300000)(hp:PC E 126 [.agg c.view,.agg p.view] (DG f0 u0 e0))(o0:FH c (f0,u0,e0)):
 PC E 219 [.agg c.view,.agg (Pf.mk k 0 (.mk 0 []) [t] [] [p]).view] (Cx (atR k t (fun _=>(f0,u0,e0)) c)):=by
 have hl:=hc.len;have hsum:=hc.sum;have b0:=Gr hc o0;have h1:=RY c.tys t (by omega) (by omega);unfold atR;by_cases t0:(y3 c.tys t).2=0;case neg=>
  rw[if_pos t0];refine M.F Tryz.func219 ?_;(repeat' first|refine M.go ?_|refine M.c2 (h1) ?_|refine M.z1 5 ?_|refine M.cs ?_ ?_<;>intro h|refine M.gk ?_|fail);all_goals first
   |rfl
   |(exfalso;simp at h;exact t0 h)
 rw[if_neg (by simp[t0])];rw[t0] at h1;obtain⟨_,t1,t2,_⟩:=Lo t0;by_cases he:e0=0;case neg=>
  rw[if_pos he];refine M.F Tryz.func219 ?_;(repeat' first|refine M.go ?_|refine M.c2 (h1) ?_|refine M.c2 (hp) ?_|refine M.z1 8 ?_|refine M.cs ?_ ?_<;>intro h|refine M.gk ?_|fail);all_goals first
   |rfl
   |(exfalso;simp at h;exact he h)
   |(exfalso;simp at h;done)
 subst he;rw[if_neg (by simp)];have hfr:=NX t t1 t2 (by omega);have hfl:=(un t2).len;have hun:=HF u0 (Fb t) (by omega) (by omega);by_cases hkd:f0.kind=kI k 13 6 4;case neg=>
  rw[if_pos hkd];rcases hk with rfl|rfl;all_goals
   refine M.F Tryz.func219 ?_;(repeat' first|refine M.go ?_|refine M.c2 (h1) ?_|refine M.c2 (hp) ?_|refine M.c2 (hfr) ?_|refine M.c2 (hun) ?_|refine M.z1 13 ?_|refine M.cs ?_ ?_<;>intro h|refine M.gk ?_|fail);all_goals first
    |rfl
    |(exfalso;simp at h;exact hkd h)
    |trace_state
 rw[if_neg (by simp[hkd])];have hkk:4<=f0.kind/\f0.kind<=7:=by rw[hkd,kI];split<;>omega
 have s0:=(Fm.Ae _).1 (o0.1 rfl).1;obtain⟨x,e⟩:=Hw s0.1 hkk;simp only at e;have ex:=vw (o0.1 rfl).1 (x:=x) (by rw[show(f0,u0,(0:Int)).1=f0 from rfl,e];simp[Bo]);have hte:=Ix s0.1 hkk;have hsame:=xr _ f0.ty (y3 c.tys t).1 (Nat.le_refl _) (by have:=((Ty.Ae _).1 hte).2;simp only at this;omega);have hput:=JZ x t (by have:=yf ex;omega) (by omega);have hx:f0.args.getD 0 A1=x:=by rw[e];rfl
 rw[hx];generalize hty:f0.ty=s at*;by_cases hts:s=(y3 c.tys t).1;case neg=>
  rw[if_pos hts];rw[decide_eq_false hts] at hsame;rw[hkd] at e;subst e;rcases hk with rfl|rfl;all_goals
   simp only[kI] at*;refine M.F Tryz.func219 ?_;(repeat' first|refine M.gw ?_|refine M.c2 (h1) ?_|refine M.c2 (hp) ?_|refine M.c2 (hfr) ?_|refine M.c2 (hun) ?_|refine M.c2 (hsame) ?_|fail);all_goals first
    |rfl
    |trace_state
 rw[if_neg (by simp[hts])];rw[decide_eq_true hts] at hsame;rw[hkd] at e;subst e;rcases hk with rfl|rfl;all_goals
  simp only[kI] at*;refine M.F Tryz.func219 ?_;(repeat' first|refine M.gw ?_|refine M.c2 (h1) ?_|refine M.c2 (hp) ?_|refine M.c2 (hfr) ?_|refine M.c2 (hun) ?_|refine M.c2 (hsame) ?_|refine M.c2 (hput) ?_|fail);all_goals first
   |rfl
   |trace_state
end
section
variable {c:Ck} (hc:c.ok) {p q:Pf} {r0 r1:Rs}
include hc
theorem UM{k:Int}(hk:k=10\/k=14){f:Fm}{t:Tm}(hf:f.full<=300000)(ht:t.full<=300000)
 (hpa:PC E 246 [.agg c.view,.agg p.view,.agg (f.args.getD 0 A1).view,.agg t.view] (.Az [.s .int (y5 r0 c (f.args.getD 0 A1) t).1,.i (y5 r0 c (f.args.getD 0 A1) t).2]))
 (hua:Ba c.tys.length (y5 r0 c (f.args.getD 0 A1) t).1):
 PC E 220 [.agg c.view,.agg (Pf.mk k 0 (.mk 0 []) [t] [f] [p]).view] (Cx (Ma k f t r0 c)):=by
 have hl:=hc.len;have hsum:=hc.sum;have hul:=hua.len;have h1:=Of c.tys f (by omega) (by omega);have h2:=RY c.tys t (by omega) (by omega);unfold Ma;generalize y5 r0 c (f.args.getD 0 A1) t=pr at*;by_cases t0:ym c.tys f=0;case neg=>
  rw[if_pos t0];refine M.F Tryz.func220 ?_;(repeat' first|refine M.go ?_|refine M.c2 (h1) ?_|refine M.z1 5 ?_|refine M.cs ?_ ?_<;>intro h|refine M.gk ?_|fail);all_goals first
   |rfl
   |(exfalso;simp at h;exact t0 h)
 rw[if_neg (by simp[t0])];rw[t0] at h1;obtain⟨fe,fo⟩:=x6 t0;have s0:=(Fm.Ae _).1 fe;by_cases hkd:f.kind=kI k 14 7 5;case neg=>
  rw[if_pos hkd];rcases hk with rfl|rfl;all_goals
   refine M.F Tryz.func220 ?_;(repeat' first|refine M.go ?_|refine M.c2 (h1) ?_|refine M.z1 10 ?_|refine M.cs ?_ ?_<;>intro h|refine M.gk ?_|fail);all_goals first
    |rfl
    |(exfalso;simp at h;exact hkd h)
    |trace_state
 rw[if_neg (by simp[hkd])];have hkk:4<=f.kind/\f.kind<=7:=by rw[hkd,kI];split<;>omega
 obtain⟨x,e⟩:=Hw s0.1 hkk;have hx:f.args.getD 0 A1=x:=by rw[e];rfl
 have hte:=Ix s0.1 hkk;have hsame:=xr _ f.ty (y3 c.tys t).1 (Nat.le_refl _) (by have:=((Ty.Ae _).1 hte).2;omega);rw[hx] at hpa;by_cases t1:(y3 c.tys t).2=0;case neg=>
  rw[if_pos t1];clear hsame hte;generalize f.ty=s at*;rw[hkd] at e;subst e;rcases hk with rfl|rfl;all_goals
   simp only[kI] at*;refine M.F Tryz.func220 ?_;(repeat' first|refine M.go ?_|refine M.c2 (h1) ?_|refine M.c2 (h2) ?_|refine M.z1 13 ?_|refine M.cs ?_ ?_<;>intro h|refine M.gk ?_|fail);all_goals first
    |rfl
    |(exfalso;simp at h;exact t1 h)
    |trace_state
 rw[if_neg (by simp[t1])];rw[t1] at h2;obtain⟨_,te,ti,_⟩:=Lo t1;have hfr:=NX t te ti (by omega);have hfl:=(un ti).len;have hun:=HF pr.1 (Fb t) (by omega) (by omega);by_cases hts:f.ty=(y3 c.tys t).1;case neg=>
  rw[if_pos hts];rw[decide_eq_false hts] at hsame;clear hte;generalize f.ty=s at*;rw[hkd] at e;subst e;rcases hk with rfl|rfl;all_goals
   simp only[kI] at*;refine M.F Tryz.func220 ?_;(repeat' first|refine M.gw ?_|refine M.c2 (h1) ?_|refine M.c2 (h2) ?_|refine M.c2 (hsame) ?_|fail);all_goals first
    |rfl
    |trace_state
 rw[if_neg (by simp[hts])];rw[decide_eq_true hts] at hsame;clear hte;generalize f.ty=s at*;rw[hkd] at e;subst e;rcases hk with rfl|rfl;all_goals
  simp only[kI] at*;refine M.F Tryz.func220 ?_;(repeat' first|refine M.gw ?_|refine M.c2 (h1) ?_|refine M.c2 (h2) ?_|refine M.c2 (hsame) ?_|refine M.c2 (hpa) ?_|refine M.c2 (hfr) ?_|refine M.c2 (hun) ?_|fail);all_goals first
   |rfl
   |trace_state
theorem Yj9{f:Fm}{t:Tm}(hf:f.full<=300000)(ht:t.full<=300000)
 (hpa:PC E 246 [.agg c.view,.agg p.view,.agg f.view,.agg zT.view] (.Az [.s .int (y5 r0 c f zT).1,.i (y5 r0 c f zT).2]))
 (hpb:((c.below [Af]).AA f).ok->PC E 246 [.agg ((c.below [Af]).AA f).view,.agg q.view,.agg (f.AV 1 1).view,.agg (sT (vT 0)).view] (.Az [.s .int (y5 r1 ((c.below [Af]).AA f) (f.AV 1 1) (sT (vT 0))).1,.i (y5 r1 ((c.below [Af]).AA f) (f.AV 1 1) (sT (vT 0))).2]))
 (hua:Ba c.tys.length (y5 r0 c f zT).1) (hub:((c.below [Af]).AA f).ok->Ba (c.tys.length+1) (y5 r1 ((c.below [Af]).AA f) (f.AV 1 1) (sT (vT 0))).1):
 PC E 222 [.agg c.view,.agg (Pf.mk 16 0 (.mk 0 []) [t] [f] [p,q]).view] (Cx (Lu f t r0 r1 c)):=by
 have hl:=hc.len;have hn:=hc.nh;have hsum:=hc.sum;have hul:=hua.len;have h1:=M0 (c.tys++[Af]) f (by omega) (hc.one HR) (by simp;omega);have h2:=Ro c t 1 (by omega) (by omega);have h3:=CJ 4 [] (by simp);have h4:=Lh c 1 1 (by omega) (by omega);have h5:=v8;have h6:=M6 c hc [Af] (by simp) (by simp);have h7:=NT (c.below [Af]) f (by simp[Ck.below];omega);have h9:=Ex 0;have h10:=CJ 5 [vT 0] (by simp[vT,Tm.full,Tm.Au,Ty.size,Ty.sizes]);have h11:=JZ f t (by omega) (by omega);unfold Lu;generalize hA:y5 r0 c f zT=a at*;generalize hB:y5 r1 ((c.below [Af]).AA f) (f.AV 1 1) (sT (vT 0))=b at*;by_cases e0:v3 (c.tys++[Af]) f=0;case neg=>
  rw[if_pos e0];refine M.F Tryz.func222 ?_;(repeat' first|refine M.go ?_|refine M.c2 (h5) ?_|refine M.c2 (h1) ?_|refine M.z1 5 ?_|refine M.cs ?_ ?_<;>intro h|refine M.gk ?_|fail);all_goals first
   |rfl
   |(exfalso;simp at h;exact e0 h)
   |trace_state
 rw[if_neg (by simp[e0])];rw[e0] at h1;obtain⟨f1,f2⟩:=J2 (hc.one HR) e0;have s0:=(Fm.Ae _).1 f1;by_cases e1:Fa c t 1=0;case neg=>
  rw[if_pos e1];refine M.F Tryz.func222 ?_;(repeat' first|refine M.go ?_|refine M.c2 (h5) ?_|refine M.c2 (h1) ?_|refine M.c2 (h2) ?_|refine M.z1 8 ?_|refine M.cs ?_ ?_<;>intro h|refine M.gk ?_|fail);all_goals first
   |rfl
   |(exfalso;simp at h;exact e1 h)
   |trace_state
 rw[if_neg (by simp[e1])];rw[e1] at h2;obtain⟨te,ti⟩:=Sa e1;by_cases e2:a.2=0;case neg=>
  rw[if_pos e2];refine M.F Tryz.func222 ?_;(repeat' first|refine M.go ?_|refine M.c2 (h5) ?_|refine M.c2 (h1) ?_|refine M.c2 (h2) ?_|refine M.c2 (h3) ?_|refine M.c2 (hpa) ?_|refine M.z1 11 ?_|refine M.cs ?_ ?_<;>intro h|refine M.gk ?_|fail);all_goals first
   |rfl
   |(exfalso;simp at h;exact e2 h)
   |trace_state
 rw[if_neg (by simp[e2])];rw[e2] at hpa;by_cases e3:c.room 1 1=0;case neg=>
  rw[if_pos e3];rw[MM e3] at h4;refine M.F Tryz.func222 ?_;(repeat' first|refine M.gw ?_|refine M.c2 (h5) ?_|refine M.c2 (h1) ?_|refine M.c2 (h2) ?_|refine M.c2 (h3) ?_|refine M.c2 (hpa) ?_|refine M.c2 (h4) ?_|fail);all_goals first
   |rfl
   |trace_state
 rw[if_neg (by simp[e3])];rw[e3] at h4;have hr:=wy e3;have hb:((c.below [Af]).AA f).ok:=(hc.below (l:=[Af]) hr.1 (by simp[HR])).AA (by simpa[Ck.below] using hr.2) f1 f2;have h8:=Ff f2 s0.1 (by omega) (by simp;omega) 1 1 (by omega) (by omega);have h12:=hpb hb;have hub':=hub hb;by_cases e4:b.2=0;case neg=>
  rw[if_pos e4];refine M.F Tryz.func222 ?_;(repeat' first|refine M.go ?_|refine M.c2 (h5) ?_|refine M.c2 (h1) ?_|refine M.c2 (h2) ?_|refine M.c2 (h3) ?_|refine M.c2 (hpa) ?_|refine M.c2 (h4) ?_|refine M.c2 (h6) ?_|refine M.c2 (h7) ?_|refine M.c2 (h8) ?_|refine M.c2 (h9) ?_|refine M.c2 (h10) ?_|refine M.c2 (h12) ?_|refine M.z1 17 ?_|refine M.cs ?_ ?_<;>intro h|refine M.gk ?_|fail);all_goals first
   |rfl
   |(exfalso;simp at h;exact e4 h)
   |trace_state
 rw[if_neg (by simp[e4])];rw[e4] at h12;have hfr:=NX t te ti (by omega);have hfl:=(un ti).len;have hun:=HF (Fb t) a.1 (by omega) (by omega);have hlu:Ba c.tys.length (ua (Fb t) a.1):= .union (un ti).2 hua.2;have hll:=hlu.len;have hbl:=hub'.len;have hou:=Ng b.1 1 (by omega) (by omega) (fun x hx=>by have:=hub'.2 x hx;omega);have hol:=Nn b.1 1;have hun2:=HF (ua (Fb t) a.1) (DZ b.1 1) (by omega) (by omega);refine M.F Tryz.func222 ?_;(repeat' first|refine M.gw ?_|refine M.c2 (h5) ?_|refine M.c2 (h1) ?_|refine M.c2 (h2) ?_|refine M.c2 (h3) ?_|refine M.c2 (hpa) ?_|refine M.c2 (h4) ?_|refine M.c2 (h6) ?_|refine M.c2 (h7) ?_|refine M.c2 (h8) ?_|refine M.c2 (h9) ?_|refine M.c2 (h10) ?_|refine M.c2 (h12) ?_|refine M.c2 (h11) ?_|refine M.c2 (hfr) ?_|refine M.c2 (hun) ?_|refine M.c2 (hou) ?_|refine M.c2 (hun2) ?_|fail);all_goals first
  |rfl
  |trace_state
end
section
variable {c:Ck} (hc:c.ok) {p q:Pf} {r0 r1:Rs}
include hc
theorem Up{k:Int}(hk:k=11\/k=15){f0 f1:Fm}{u0 u1:List Int}{e0 e1:Int}(hr0:r0 c=(f0,u0,e0))(hr1:Hp r1 c f0=(f1,u1,e1))
 (hp:PC E 126 [.agg c.view,.agg p.view] (DG f0 u0 e0)) (o0:FH c (f0,u0,e0))
 (hq:((c.below [f0.ty]).AA (f0.args.getD 0 A1)).ok->PC E 126 [.agg ((c.below [f0.ty]).AA (f0.args.getD 0 A1)).view,.agg q.view] (DG f1 u1 e1))
 (o1:((c.below [f0.ty]).AA (f0.args.getD 0 A1)).ok->FH ((c.below [f0.ty]).AA (f0.args.getD 0 A1)) (f1,u1,e1)):
 PC E 221 [.agg c.view,.agg (Pf.mk k 0 (.mk 0 []) [] [] [p,q]).view] (Cx (MO k r0 r1 c)):=by
 have hl:=hc.len;have hn:=hc.nh;have b0:=Gr hc o0;unfold MO;rw[hr0];simp only[hr1];by_cases he:e0=0;case neg=>
  rw[if_pos he];refine M.F Tryz.func221 ?_;(repeat' first|refine M.go ?_|refine M.c2 (hp) ?_|refine M.z1 4 ?_|refine M.cs ?_ ?_<;>intro h|refine M.gk ?_|fail);all_goals first
   |rfl
   |(exfalso;simp at h;exact he h)
   |trace_state
 subst he;rw[if_neg (by simp)];have ho:=o0.1 rfl;have s0:=(Fm.Ae _).1 ho.1;by_cases hkd:f0.kind=kI k 15 7 5;case neg=>
  rw[if_pos hkd];rcases hk with rfl|rfl;all_goals
   refine M.F Tryz.func221 ?_;(repeat' first|refine M.go ?_|refine M.c2 (hp) ?_|refine M.z1 9 ?_|refine M.cs ?_ ?_<;>intro h|refine M.gk ?_|fail);all_goals first
    |rfl
    |(exfalso;simp at h;exact hkd h)
    |trace_state
 rw[if_neg (by simp[hkd])];have hkk:4<=f0.kind/\f0.kind<=7:=by rw[hkd,kI];split<;>omega
 obtain⟨x,e⟩:=Hw s0.1 hkk;have hx:f0.args.getD 0 A1=x:=by simp only at e;rw[e];rfl
 have hte:=Ix s0.1 hkk;have ex:=vw ho.1 (x:=x) (by simp only at e;rw[show(f0,u0,(0:Int)).1=f0 from rfl,e];simp[Bo]);have ok0:=ho.2.1;simp only at e hte ok0;rw[e] at ok0;have o1':=Ju hkk ok0;rw[hx] at hq o1;clear ok0 hr1 hr0 s0 hx;generalize f0.ty=s at*;rw[hkd] at e;subst e;have h1:=Lh c 1 1 (by omega) (by omega);by_cases hr:c.room 1 1=0;case neg=>
  rw[if_pos hr];rw[MM hr] at h1;rcases hk with rfl|rfl;all_goals
   simp only[kI] at*;refine M.F Tryz.func221 ?_;(repeat' first|refine M.gw ?_|refine M.c2 (hp) ?_|refine M.c2 (h1) ?_|fail);all_goals first
    |rfl
    |trace_state
 rw[if_neg (by simp[hr])];have hro:=wy hr;rw[hr] at h1;have hb:((c.below [s]).AA x).ok:=(hc.below (l:=[s]) hro.1 (by simpa using hte)).AA (by simpa[Ck.below] using hro.2) ex o1';have h2:=M6 c hc [s] (by simp) (by simp);have h3:=NT (c.below [s]) x (by simp[Ck.below];omega);have h4:=hq hb;have o1b:=o1 hb;have b1:=Gr hb o1b;by_cases he1:e1=0;case neg=>
  rw[if_pos he1];rcases hk with rfl|rfl;all_goals
   simp only[kI] at*;refine M.F Tryz.func221 ?_;(repeat' first|refine M.go ?_|refine M.c2 (hp) ?_|refine M.c2 (h1) ?_|refine M.c2 (h2) ?_|refine M.c2 (h3) ?_|refine M.c2 (h4) ?_|refine M.z1 15 ?_|refine M.cs ?_ ?_<;>intro h|refine M.gk ?_|fail);all_goals first
    |rfl
    |(exfalso;simp at h;exact he1 h)
    |trace_state
 subst he1;rw[if_neg (by simp)];have hf1:=o1b.1 rfl;simp only at hf1;have s1:=(Fm.Ae _).1 hf1.1;have h5:=Xl _ f1 0 (Nat.le_refl _) (by omega) (by omega) (by omega) s1.1;have hu:=U6 u1;have hou:=Ng u1 1 (by omega) (by omega) b1.2.2;have hol:=Nn u1 1;have hun:=HF u0 (DZ u1 1) (by omega) (by omega);have h6:=Zxq _ f1 (Nat.le_refl _) (by omega);by_cases t0:y8 0 f1=0;case pos=>
  have ef:EN f1=(f1,0):=by unfold EN;rw[if_pos t0]
  rw[ef];rw[decide_eq_false (by simp[t0])] at h5;have h7:=h6;have hup:=Ff (hf1.2.1) s1.1 (by omega) (by simp[Ck.below,Ck.AA];omega) 1 (-1) (by omega) (by omega);rw[if_neg (by simp)];rcases hk with rfl|rfl
  ·rw[if_neg (by simp)];simp only[kI] at*;refine M.F Tryz.func221 ?_;(repeat' first|refine M.gw ?_|refine M.c2 (hp) ?_|refine M.c2 (h1) ?_|refine M.c2 (h2) ?_|refine M.c2 (h3) ?_|refine M.c2 (h4) ?_|refine M.c2 (h5) ?_|refine M.c2 (hup) ?_|refine M.c2 (hou) ?_|refine M.c2 (hun) ?_|fail);all_goals first
    |rfl
    |trace_state
  ·simp only[kI] at*;cases hh:Ku u1 with
   |true=>
    rw[hh] at hu;rw[if_pos (by simp)];refine M.F Tryz.func221 ?_;(repeat' first|refine M.gw ?_|refine M.c2 (hp) ?_|refine M.c2 (h1) ?_|refine M.c2 (h2) ?_|refine M.c2 (h3) ?_|refine M.c2 (h4) ?_|refine M.c2 (h5) ?_|refine M.c2 (hu) ?_|fail);all_goals first
     |rfl
     |trace_state
   |false=>
    rw[hh] at hu;rw[if_neg (by simp)];refine M.F Tryz.func221 ?_;(repeat' first|refine M.gw ?_|refine M.c2 (hp) ?_|refine M.c2 (h1) ?_|refine M.c2 (h2) ?_|refine M.c2 (h3) ?_|refine M.c2 (h4) ?_|refine M.c2 (h5) ?_|refine M.c2 (hu) ?_|refine M.c2 (hup) ?_|refine M.c2 (hou) ?_|refine M.c2 (hun) ?_|fail);all_goals first
     |rfl
     |trace_state
 rw[decide_eq_true t0] at h5;by_cases n0:(we f1).2=0;case neg=>
  have ef:EN f1=(A1,(we f1).2):=by unfold EN;rw[if_neg t0,if_pos n0]
  rw[ef,if_pos n0];rcases hk with rfl|rfl;all_goals
   simp only[kI] at*;refine M.F Tryz.func221 ?_;(repeat' first|refine M.go ?_|refine M.c2 (hp) ?_|refine M.c2 (h1) ?_|refine M.c2 (h2) ?_|refine M.c2 (h3) ?_|refine M.c2 (h4) ?_|refine M.c2 (h5) ?_|refine M.c2 (h6) ?_|refine M.z1 20 ?_|refine M.cs ?_ ?_<;>intro h|refine M.gk ?_|fail);all_goals first
    |rfl
    |(exfalso;simp at h;exact n0 h)
    |trace_state
 rw[n0] at h6;obtain⟨nk,ns,nz,no⟩:=Vd f1 n0 s1.1;have nfl:=ID (we f1).1 ns;have h7:=Xl _ (we f1).1 0 (Nat.le_refl _) (by omega) (by omega) (by omega) ns;by_cases n1:y8 0 (we f1).1=0;case neg=>
  have ef:EN f1=(A1,6):=by unfold EN;rw[if_neg t0,if_neg (by simp[n0]),if_pos n1]
  rw[ef,if_pos (by decide)];rw[decide_eq_true n1] at h7;rcases hk with rfl|rfl;all_goals
   simp only[kI] at*;refine M.F Tryz.func221 ?_;(repeat' first|refine M.gw ?_|refine M.c2 (hp) ?_|refine M.c2 (h1) ?_|refine M.c2 (h2) ?_|refine M.c2 (h3) ?_|refine M.c2 (h4) ?_|refine M.c2 (h5) ?_|refine M.c2 (h6) ?_|refine M.c2 (h7) ?_|fail);all_goals first
    |rfl
    |trace_state
 case pos=>
  have ef:EN f1=((we f1).1,0):=by unfold EN;rw[if_neg t0,if_neg (by simp[n0]),if_neg (by simp[n1])]
  rw[ef];rw[decide_eq_false (by simp[n1])] at h7;have hup:=Ff (no _ hf1.2.1) ns (by omega) (by simp[Ck.below,Ck.AA];omega) 1 (-1) (by omega) (by omega);rw[if_neg (by simp)];rcases hk with rfl|rfl
  ·rw[if_neg (by simp)];simp only[kI] at*;refine M.F Tryz.func221 ?_;(repeat' first|refine M.gw ?_|refine M.c2 (hp) ?_|refine M.c2 (h1) ?_|refine M.c2 (h2) ?_|refine M.c2 (h3) ?_|refine M.c2 (h4) ?_|refine M.c2 (h5) ?_|refine M.c2 (h6) ?_|refine M.c2 (h7) ?_|refine M.c2 (hup) ?_|refine M.c2 (hou) ?_|refine M.c2 (hun) ?_|fail);all_goals first
    |rfl
    |trace_state
  ·simp only[kI] at*;cases hh:Ku u1 with
   |true=>
    rw[hh] at hu;rw[if_pos (by simp)];refine M.F Tryz.func221 ?_;(repeat' first|refine M.gw ?_|refine M.c2 (hp) ?_|refine M.c2 (h1) ?_|refine M.c2 (h2) ?_|refine M.c2 (h3) ?_|refine M.c2 (h4) ?_|refine M.c2 (h5) ?_|refine M.c2 (h6) ?_|refine M.c2 (h7) ?_|refine M.c2 (hu) ?_|fail);all_goals first
     |rfl
     |trace_state
   |false=>
    rw[hh] at hu;rw[if_neg (by simp)];refine M.F Tryz.func221 ?_;(repeat' first|refine M.gw ?_|refine M.c2 (hp) ?_|refine M.c2 (h1) ?_|refine M.c2 (h2) ?_|refine M.c2 (h3) ?_|refine M.c2 (h4) ?_|refine M.c2 (h5) ?_|refine M.c2 (h6) ?_|refine M.c2 (h7) ?_|refine M.c2 (hu) ?_|refine M.c2 (hup) ?_|refine M.c2 (hou) ?_|refine M.c2 (hun) ?_|fail);all_goals first
     |rfl
     |trace_state
end
section
variable {c:Ck} (hc:c.ok) {p q:Pf} {r0 r1:Rs}
include hc
theorem Yac{f:Fm}{f0:Fm}{u0:List Int}{e0:Int}(hr0:r0 c=(f0,u0,e0))(hf:f.full<=300000)
 (hp:PC E 126 [.agg c.view,.agg p.view] (DG f0 u0 e0)) (o0:FH c (f0,u0,e0))
 (hpb:∀t:Tm,t.full<=300000->PC E 246 [.agg c.view,.agg q.view,.agg f.view,.agg t.view] (.Az [.s .int (y5 r1 c f t).1,.i (y5 r1 c f t).2])):
 PC E 225 [.agg c.view,.agg (Pf.mk 19 0 (.mk 0 []) [] [f] [p,q]).view] (Cx (MP f r0 r1 c)):=by
 have hl:=hc.len;have hsum:=hc.sum;have h1:=M0 (c.tys++[Af]) f (by omega) (hc.one HR) (by simp;omega);have h5:=v8;unfold MP;rw[hr0];by_cases t0:v3 (c.tys++[Af]) f=0;case neg=>
  rw[if_pos t0];refine M.F Tryz.func225 ?_;(repeat' first|refine M.go ?_|refine M.c2 (h5) ?_|refine M.c2 (h1) ?_|refine M.z1 5 ?_|refine M.cs ?_ ?_<;>intro h|refine M.gk ?_|fail);all_goals first
   |rfl
   |(exfalso;simp at h;exact t0 h)
   |trace_state
 rw[if_neg (by simp[t0])];rw[t0] at h1;by_cases he:e0=0;case neg=>
  rw[if_pos he];refine M.F Tryz.func225 ?_;(repeat' first|refine M.go ?_|refine M.c2 (h5) ?_|refine M.c2 (h1) ?_|refine M.c2 (hp) ?_|refine M.z1 8 ?_|refine M.cs ?_ ?_<;>intro h|refine M.gk ?_|fail);all_goals first
   |rfl
   |(exfalso;simp at h;exact he h)
   |trace_state
 subst he;rw[if_neg (by simp)];by_cases hk:f0.kind=1;case neg=>
  rw[if_pos hk];refine M.F Tryz.func225 ?_;(repeat' first|refine M.go ?_|refine M.c2 (h5) ?_|refine M.c2 (h1) ?_|refine M.c2 (hp) ?_|refine M.z1 10 ?_|refine M.cs ?_ ?_<;>intro h|refine M.gk ?_|fail);all_goals first
   |rfl
   |(exfalso;simp at h;exact hk h)
   |trace_state
 rw[if_neg (by simp[hk])];have ho:=o0.1 rfl;obtain⟨x,y,e⟩:=Py ((Fm.Ae _).1 ho.1).1 hk;simp only at e;subst e;have ex:=Ts ho.1 (t:=x) (by simp[AP]);have ey:=Ts ho.1 (t:=y) (by simp[AP]);have h2:=hpb x (by have:=z9 ex;omega);have h3:=JZ f y (by omega) (by have:=z9 ey;omega);have e1:((AP x y).terms.getD 0 A0)=x:=rfl;have e2:((AP x y).terms.getD 1 A0)=y:=rfl;simp only[e1,e2];generalize y5 r1 c f x=a at*;by_cases ea:a.2=0;case neg=>
  rw[if_pos ea];refine M.F Tryz.func225 ?_;(repeat' first|refine M.go ?_|refine M.c2 (h5) ?_|refine M.c2 (h1) ?_|refine M.c2 (hp) ?_|refine M.c2 (h2) ?_|refine M.z1 13 ?_|refine M.cs ?_ ?_<;>intro h|refine M.gk ?_|fail);all_goals first
   |rfl
   |(exfalso;simp at h;exact ea h)
   |trace_state
 rw[if_neg (by simp[ea])];rw[ea] at h2;refine M.F Tryz.func225 ?_;(repeat' first|refine M.gw ?_|refine M.c2 (h5) ?_|refine M.c2 (h1) ?_|refine M.c2 (hp) ?_|refine M.c2 (h2) ?_|refine M.c2 (h3) ?_|fail);all_goals first
  |rfl
  |trace_state
theorem Zva{f0:Fm}{u0:List Int}{e0:Int}(hr0:r0 c=(f0,u0,e0))
 (hp:PC E 126 [.agg c.view,.agg p.view] (DG f0 u0 e0)) (o0:FH c (f0,u0,e0)):
 PC E 226 [.agg c.view,.agg (Pf.mk 20 0 (.mk 0 []) [] [] [p]).view] (Cx (LK r0 c)):=by
 have hl:=hc.len;unfold LK;rw[hr0];by_cases he:e0=0;case neg=>
  rw[if_pos he];refine M.F Tryz.func226 ?_;(repeat' first|refine M.go ?_|refine M.c2 (hp) ?_|refine M.z1 4 ?_|refine M.cs ?_ ?_<;>intro h|refine M.gk ?_|fail);all_goals first
   |rfl
   |(exfalso;simp at h;exact he h)
   |trace_state
 subst he;rw[if_neg (by simp)];have ho:=o0.1 rfl;have s0:=(Fm.Ae _).1 ho.1;by_cases hk:f0.kind=4;case neg=>
  rw[if_pos (.inl hk)];refine M.F Tryz.func226 ?_;(repeat' first|refine M.go ?_|refine M.c2 (hp) ?_|refine M.gs ?_ ?_<;>intro h|refine M.z1 6 ?_|refine M.cs ?_ ?_<;>intro h|refine M.gk ?_|fail);all_goals first
   |rfl
   |(exfalso;simp at h;exact hk h)
   |(exfalso;rename_i h1;simp at h1;exact hk h1)
   |trace_state
 obtain⟨x,e⟩:=Hw s0.1 (by simp only;omega);have hte:=Ix s0.1 (by simp only;omega);simp only at e hte;have ex:=vw ho.1 (x:=x) (by rw[show(f0,u0,(0:Int)).1=f0 from rfl,e];simp[Bo]);have sx:=(Fm.Ae _).1 ex;have ok0:=ho.2.1;simp only at ok0;generalize f0.ty=s at*;rw[hk] at e;subst e;have e1:((Bo 4 s x).args.getD 0 A1)=x:=rfl;have o1:=Ju (by omega) ok0;by_cases hk2:x.kind=5;case neg=>
  rw[if_pos (.inr (by rw[e1];exact hk2))];refine M.F Tryz.func226 ?_;(repeat' first|refine M.go ?_|refine M.c2 (hp) ?_|refine M.z1 6 ?_|refine M.cs ?_ ?_<;>intro h|refine M.gk ?_|fail);all_goals first
   |rfl
   |(exfalso;simp at h;exact hk2 h)
   |trace_state
 rw[if_neg (by rintro(h|h);exact h hk;exact h (by rw[e1];exact hk2))];obtain⟨y,e⟩:=Hw sx.1 (by omega);have hte2:=Ix sx.1 (by omega);have ey:=vw ex (x:=y) (by rw[e];simp[Bo]);have sy:=(Fm.Ae _).1 ey;generalize x.ty=u at*;rw[hk2] at e;subst e;have o2:=Ju (by omega) o1;have zs:=((Ty.Ae s).1 hte).2;have zu:=((Ty.Ae u).1 hte2).2;have h1:=IW s u (by omega) (by omega);have h2:=KB (yy s u) (by simp only[yy,Ty.size,Ty.sizes];omega);have e2:La (Bo 4 s (Bo 5 u y))=yy s u:=rfl;have e3:K6 (Bo 4 s (Bo 5 u y))=Dv (y.AV 2 1) EV:=rfl;simp only[e2,e3];by_cases ef:(yy s u).err=0;case neg=>
  rw[if_pos ef];refine M.F Tryz.func226 ?_;(repeat' first|refine M.go ?_|refine M.c2 (hp) ?_|refine M.c2 (h1) ?_|refine M.c2 (h2) ?_|refine M.z1 10 ?_|refine M.cs ?_ ?_<;>intro h|refine M.gk ?_|fail);all_goals first
   |rfl
   |(exfalso;simp at h;exact ef h)
   |trace_state
 rw[if_neg (by simp[ef])];rw[ef] at h2;have h3:=Ff o2 sy.1 (by omega) (by simp;omega) 2 1 (by omega) (by omega);have h4:=Ex 1;have h4':=Ex 0;have h5:=CJ 3 [vT 1,vT 0] (by simp[vT,Tm.full,Tm.Au,Ty.size,Ty.sizes]);have hlf:=uu sy.1 (fr:=2) (by_:=1) (by omega);have h6:=JZ (y.AV 2 1) EV (by rw[hlf.2.2];have:=yf ey;omega) (by decide);have hb:=Ud (y.AV 2 1) EV;have h7:=Gc 4 s (Dv (y.AV 2 1) EV).1 (by omega) (by omega);have h8:=Gc 5 (yy s u) (.mk 4 s [] [(Dv (y.AV 2 1) EV).1]) (by simp only[yy,Ty.size,Ty.sizes];omega) (by simp only[Fm.full,Fm.Au,List.map_nil,List.sum_nil];omega);refine M.F Tryz.func226 ?_;(repeat' first|refine M.gw ?_|refine M.c2 (hp) ?_|refine M.c2 (h1) ?_|refine M.c2 (h2) ?_|refine M.c2 (h3) ?_|refine M.c2 (h4) ?_|refine M.c2 (h4') ?_|refine M.c2 (h5) ?_|refine M.c2 (h6) ?_|refine M.c2 (h7) ?_|refine M.c2 (h8) ?_|fail);all_goals first
  |rfl
  |trace_state
end
section
variable {c:Ck} (hc:c.ok) {p q:Pf} {r0 r1:Rs}
include hc
theorem Yfj{f:Fm}{t:Tm}(hf:f.full<=300000)(ht:t.full<=300000)
 (hpa:PC E 246 [.agg c.view,.agg p.view,.agg f.view,.agg Dj.view] (.Az [.s .int (y5 r0 c f Dj).1,.i (y5 r0 c f Dj).2]))
 (hpb:((c.below [Af,Am]).AA (f.AV 1 1)).ok->PC E 246 [.agg ((c.below [Af,Am]).AA (f.AV 1 1)).view,.agg q.view,.agg (f.AV 1 2).view,.agg Cb.view] (.Az [.s .int (y5 r1 ((c.below [Af,Am]).AA (f.AV 1 1)) (f.AV 1 2) Cb).1,.i (y5 r1 ((c.below [Af,Am]).AA (f.AV 1 1)) (f.AV 1 2) Cb).2]))
 (hua:Ba c.tys.length (y5 r0 c f Dj).1) (hub:((c.below [Af,Am]).AA (f.AV 1 1)).ok->Ba (c.tys.length+2) (y5 r1 ((c.below [Af,Am]).AA (f.AV 1 1)) (f.AV 1 2) Cb).1):
 PC E 223 [.agg c.view,.agg (Pf.mk 17 0 (.mk 0 []) [t] [f] [p,q]).view] (Cx (KW f t r0 r1 c)):=by
 have hl:=hc.len;have hn:=hc.nh;have hsum:=hc.sum;have hul:=hua.len;have h1:=M0 (c.tys++[Am]) f (by omega) (hc.one LW) (by simp;omega);have h2:=Ro c t 2 (by omega) (by omega);have h3:=CJ 7 [] (by simp);have h4:=Lh c 2 1 (by omega) (by omega);have h5:=v8;have h6:=M6 c hc [Af,Am] (by simp) (by simp);have h7:=NT (c.below [Af,Am]) (f.AV 1 1) (by simp[Ck.below];omega);have h9:=Ex 0;have h9':=Ex 1;have h5':=Fe;have h10:=CJ 8 [vT 1,vT 0] (by simp[vT,Tm.full,Tm.Au,Ty.size,Ty.sizes]);have h11:=JZ f t (by omega) (by omega);unfold KW;generalize hA:y5 r0 c f Dj=a at*;generalize hB:y5 r1 ((c.below [Af,Am]).AA (f.AV 1 1)) (f.AV 1 2) Cb=b at*;by_cases e0:v3 (c.tys++[Am]) f=0;case neg=>
  rw[if_pos e0];refine M.F Tryz.func223 ?_;(repeat' first|refine M.go ?_|refine M.c2 (h5') ?_|refine M.c2 (h1) ?_|refine M.z1 5 ?_|refine M.cs ?_ ?_<;>intro h|refine M.gk ?_|fail);all_goals first
   |rfl
   |(exfalso;simp at h;exact e0 h)
   |trace_state
 rw[if_neg (by simp[e0])];rw[e0] at h1;obtain⟨f1,f2⟩:=J2 (hc.one LW) e0;have s0:=(Fm.Ae _).1 f1;by_cases e1:Fa c t 2=0;case neg=>
  rw[if_pos e1];refine M.F Tryz.func223 ?_;(repeat' first|refine M.go ?_|refine M.c2 (h5') ?_|refine M.c2 (h1) ?_|refine M.c2 (h2) ?_|refine M.z1 8 ?_|refine M.cs ?_ ?_<;>intro h|refine M.gk ?_|fail);all_goals first
   |rfl
   |(exfalso;simp at h;exact e1 h)
   |trace_state
 rw[if_neg (by simp[e1])];rw[e1] at h2;obtain⟨te,ti⟩:=Vh e1;by_cases e2:a.2=0;case neg=>
  rw[if_pos e2];refine M.F Tryz.func223 ?_;(repeat' first|refine M.go ?_|refine M.c2 (h5') ?_|refine M.c2 (h1) ?_|refine M.c2 (h2) ?_|refine M.c2 (h3) ?_|refine M.c2 (hpa) ?_|refine M.z1 11 ?_|refine M.cs ?_ ?_<;>intro h|refine M.gk ?_|fail);all_goals first
   |rfl
   |(exfalso;simp at h;exact e2 h)
   |trace_state
 rw[if_neg (by simp[e2])];rw[e2] at hpa;by_cases e3:c.room 2 1=0;case neg=>
  rw[if_pos e3];rw[MM e3] at h4;refine M.F Tryz.func223 ?_;(repeat' first|refine M.gw ?_|refine M.c2 (h5') ?_|refine M.c2 (h1) ?_|refine M.c2 (h2) ?_|refine M.c2 (h3) ?_|refine M.c2 (hpa) ?_|refine M.c2 (h4) ?_|fail);all_goals first
   |rfl
   |trace_state
 rw[if_neg (by simp[e3])];rw[e3] at h4;have hr:=wy e3;have hb:((c.below [Af,Am]).AA (f.AV 1 1)).ok:=(hc.below (l:=[Af,Am]) hr.1 (by simp[HR,LW])).AA (by simpa[Ck.below] using hr.2) (K5 f1 (by omega)) (by simpa[Ck.below] using Jo (g:=c.tys) (h:=[Am]) [Af] s0.1 f2);have h8:=Ff f2 s0.1 (by omega) (by simp;omega) 1 1 (by omega) (by omega);have h8':=Ff f2 s0.1 (by omega) (by simp;omega) 1 2 (by omega) (by omega);have h12:=hpb hb;have hub':=hub hb;by_cases e4:b.2=0;case neg=>
  rw[if_pos e4];refine M.F Tryz.func223 ?_;(repeat' first|refine M.go ?_|refine M.c2 (h5) ?_|refine M.c2 (h5') ?_|refine M.c2 (h1) ?_|refine M.c2 (h2) ?_|refine M.c2 (h3) ?_|refine M.c2 (hpa) ?_|refine M.c2 (h4) ?_|refine M.c2 (h6) ?_|refine M.c2 (h7) ?_|refine M.c2 (h8) ?_|refine M.c2 (h8') ?_|refine M.c2 (h9) ?_|refine M.c2 (h9') ?_|refine M.c2 (h10) ?_|refine M.c2 (h12) ?_|refine M.z1 17 ?_|refine M.cs ?_ ?_<;>intro h|refine M.gk ?_|fail);all_goals first
   |rfl
   |(exfalso;simp at h;exact e4 h)
   |trace_state
 rw[if_neg (by simp[e4])];rw[e4] at h12;have hfr:=NX t te ti (by omega);have hfl:=(un ti).len;have hun:=HF (Fb t) a.1 (by omega) (by omega);have hlu:Ba c.tys.length (ua (Fb t) a.1):= .union (un ti).2 hua.2;have hll:=hlu.len;have hbl:=hub'.len;have hou:=Ng b.1 2 (by omega) (by omega) (fun x hx=>by have:=hub'.2 x hx;omega);have hol:=Nn b.1 2;have hun2:=HF (ua (Fb t) a.1) (DZ b.1 2) (by omega) (by omega);refine M.F Tryz.func223 ?_;(repeat' first|refine M.gw ?_|refine M.c2 (h5) ?_|refine M.c2 (h5') ?_|refine M.c2 (h1) ?_|refine M.c2 (h2) ?_|refine M.c2 (h3) ?_|refine M.c2 (hpa) ?_|refine M.c2 (h4) ?_|refine M.c2 (h6) ?_|refine M.c2 (h7) ?_|refine M.c2 (h8) ?_|refine M.c2 (h8') ?_|refine M.c2 (h9) ?_|refine M.c2 (h9') ?_|refine M.c2 (h10) ?_|refine M.c2 (h12) ?_|refine M.c2 (h11) ?_|refine M.c2 (hfr) ?_|refine M.c2 (hun) ?_|refine M.c2 (hou) ?_|refine M.c2 (hun2) ?_|fail);all_goals first
  |rfl
  |trace_state
end
def KQ(p:Pf):Prop:=∀c:Ck,c.ok->PC E 126 [.agg c.view,.agg p.view] (DG (Cf p c).1 (Cf p c).2.1 (Cf p c).2.2)
def WE(p:Pf):Prop:=p.shape=true/\p.small=true
theorem Zm6{p:Pf}(h:p.small=true):(∀t∈p.terms,t.size<=4096)/\(∀f∈p.Ac,f.size<=4096)/\∀x∈p.args,x.small=true:=by
 rw[p.BZ] at h;simp only[Bool.and_eq_true,List.all_eq_true,decide_eq_true_eq] at h;exact⟨h.1.1,h.1.2,h.2⟩
theorem Ztd{p:Pf}{c:Ck}(hc:c.ok)(hr:v6 c (HG p.kind p.index p.ty p.terms p.Ac (p.args.map Cf) c))
 (hrl:PC E 180 [.agg c.view,.agg p.view] (Cx (HG p.kind p.index p.ty p.terms p.Ac (p.args.map Cf) c))):
 PC E 126 [.agg c.view,.agg p.view] (DG (Cf p c).1 (Cf p c).2.1 (Cf p c).2.2):=by
 rw[R8];generalize HG p.kind p.index p.ty p.terms p.Ac (p.args.map Cf) c=r at*;obtain⟨f,u,e⟩:=r;unfold Kw;by_cases he:e=0;case neg=>
  rw[if_pos he];refine M.F Tryz.func126 ?_;(repeat' first|refine M.go ?_|refine M.c2 (hrl) ?_|refine M.z1 4 ?_|refine M.cs ?_ ?_<;>intro h|refine M.gk ?_|fail);all_goals first
   |rfl
   |(exfalso;simp at h;exact he h)
   |trace_state
 subst he;rw[if_neg (by simp)];obtain⟨r1,r2,r3,r4⟩:=hr rfl;simp only at r1 r2;have hfl:=ID f r1;have h1:=KI f (by omega);by_cases hf:f.err=0;case neg=>
  rw[if_pos hf];refine M.F Tryz.func126 ?_;(repeat' first|refine M.go ?_|refine M.c2 (hrl) ?_|refine M.c2 (h1) ?_|refine M.z1 6 ?_|refine M.cs ?_ ?_<;>intro h|refine M.gk ?_|fail);all_goals first
   |rfl
   |(exfalso;simp at h;exact hf h)
   |trace_state
 rw[if_neg (by simp[hf])];have h2:=Zs1 f hf;rw[hf] at h1;cases hcf:Eg f with
 |true=>
  rw[hcf] at h2;rw[if_pos rfl];refine M.F Tryz.func126 ?_;(repeat' first|refine M.gw ?_|refine M.c2 (hrl) ?_|refine M.c2 (h1) ?_|refine M.c2 (h2) ?_|fail);all_goals first
   |rfl
   |trace_state
 |false=>
  rw[hcf] at h2;rw[if_neg (by simp)];refine M.F Tryz.func126 ?_;(repeat' first|refine M.gw ?_|refine M.c2 (hrl) ?_|refine M.c2 (h1) ?_|refine M.c2 (h2) ?_|fail);all_goals first
   |rfl
   |trace_state
theorem Yaf{t:Tm}(hs:t.shape=true)(hz:t.size<=4096):t.full<=300000:=by have:=K0 t hs;omega
theorem Ych{f:Fm}(hs:f.shape=true)(hz:f.size<=4096):f.full<=300000:=by have:=ID f hs;omega
section
variable {c:Ck}
theorem Yaz{s:Ty}{p:Pf}{r:CC}(h1:PC E 218 [.agg c.view,.agg (Pf.mk 8 0 s [] [] [p]).view] (Cx r)):PC E 180 [.agg c.view,.agg (Pf.mk 8 0 s [] [] [p]).view] (Cx r):=by
 refine M.F Tryz.func180 ?_;(repeat' first|refine M.gw ?_|refine M.c2 (h1) ?_|refine M.bl ?_|fail)
 rfl
theorem Zwu{s:Ty}{p:Pf}{r:CC}(h1:PC E 218 [.agg c.view,.agg (Pf.mk 12 0 s [] [] [p]).view] (Cx r)):PC E 180 [.agg c.view,.agg (Pf.mk 12 0 s [] [] [p]).view] (Cx r):=by
 refine M.F Tryz.func180 ?_;(repeat' first|refine M.gw ?_|refine M.c2 (h1) ?_|refine M.bl ?_|fail)
 rfl
theorem Yev{t:Tm}{p:Pf}{r:CC}(h1:PC E 219 [.agg c.view,.agg (Pf.mk 9 0 (.mk 0 []) [t] [] [p]).view] (Cx r)):PC E 180 [.agg c.view,.agg (Pf.mk 9 0 (.mk 0 []) [t] [] [p]).view] (Cx r):=by
 refine M.F Tryz.func180 ?_;(repeat' first|refine M.gw ?_|refine M.c2 (h1) ?_|refine M.bl ?_|fail)
 rfl
theorem Ybv{t:Tm}{p:Pf}{r:CC}(h1:PC E 219 [.agg c.view,.agg (Pf.mk 13 0 (.mk 0 []) [t] [] [p]).view] (Cx r)):PC E 180 [.agg c.view,.agg (Pf.mk 13 0 (.mk 0 []) [t] [] [p]).view] (Cx r):=by
 refine M.F Tryz.func180 ?_;(repeat' first|refine M.gw ?_|refine M.c2 (h1) ?_|refine M.bl ?_|fail)
 rfl
theorem Ybf{t:Tm}{f:Fm}{p:Pf}{r:CC}(h1:PC E 220 [.agg c.view,.agg (Pf.mk 10 0 (.mk 0 []) [t] [f] [p]).view] (Cx r)):PC E 180 [.agg c.view,.agg (Pf.mk 10 0 (.mk 0 []) [t] [f] [p]).view] (Cx r):=by
 refine M.F Tryz.func180 ?_;(repeat' first|refine M.gw ?_|refine M.c2 (h1) ?_|refine M.bl ?_|fail)
 rfl
theorem Zzo{t:Tm}{f:Fm}{p:Pf}{r:CC}(h1:PC E 220 [.agg c.view,.agg (Pf.mk 14 0 (.mk 0 []) [t] [f] [p]).view] (Cx r)):PC E 180 [.agg c.view,.agg (Pf.mk 14 0 (.mk 0 []) [t] [f] [p]).view] (Cx r):=by
 refine M.F Tryz.func180 ?_;(repeat' first|refine M.gw ?_|refine M.c2 (h1) ?_|refine M.bl ?_|fail)
 rfl
theorem Ztw{p q:Pf}{r:CC}(h1:PC E 221 [.agg c.view,.agg (Pf.mk 11 0 (.mk 0 []) [] [] [p,q]).view] (Cx r)):PC E 180 [.agg c.view,.agg (Pf.mk 11 0 (.mk 0 []) [] [] [p,q]).view] (Cx r):=by
 refine M.F Tryz.func180 ?_;(repeat' first|refine M.gw ?_|refine M.c2 (h1) ?_|refine M.bl ?_|fail)
 rfl
theorem Zs6{p q:Pf}{r:CC}(h1:PC E 221 [.agg c.view,.agg (Pf.mk 15 0 (.mk 0 []) [] [] [p,q]).view] (Cx r)):PC E 180 [.agg c.view,.agg (Pf.mk 15 0 (.mk 0 []) [] [] [p,q]).view] (Cx r):=by
 refine M.F Tryz.func180 ?_;(repeat' first|refine M.gw ?_|refine M.c2 (h1) ?_|refine M.bl ?_|fail)
 rfl
theorem Zyp{t:Tm}{f:Fm}{p q:Pf}{r:CC}(h1:PC E 222 [.agg c.view,.agg (Pf.mk 16 0 (.mk 0 []) [t] [f] [p,q]).view] (Cx r)):PC E 180 [.agg c.view,.agg (Pf.mk 16 0 (.mk 0 []) [t] [f] [p,q]).view] (Cx r):=by
 refine M.F Tryz.func180 ?_;(repeat' first|refine M.gw ?_|refine M.c2 (h1) ?_|refine M.bl ?_|fail)
 rfl
theorem Ztl{t:Tm}{f:Fm}{p q:Pf}{r:CC}(h1:PC E 223 [.agg c.view,.agg (Pf.mk 17 0 (.mk 0 []) [t] [f] [p,q]).view] (Cx r)):PC E 180 [.agg c.view,.agg (Pf.mk 17 0 (.mk 0 []) [t] [f] [p,q]).view] (Cx r):=by
 refine M.F Tryz.func180 ?_;(repeat' first|refine M.gw ?_|refine M.c2 (h1) ?_|refine M.bl ?_|fail)
 rfl
theorem Zps{f:Fm}{p q:Pf}{r:CC}(h1:PC E 225 [.agg c.view,.agg (Pf.mk 19 0 (.mk 0 []) [] [f] [p,q]).view] (Cx r)):PC E 180 [.agg c.view,.agg (Pf.mk 19 0 (.mk 0 []) [] [f] [p,q]).view] (Cx r):=by
 refine M.F Tryz.func180 ?_;(repeat' first|refine M.gw ?_|refine M.c2 (h1) ?_|refine M.bl ?_|fail)
 rfl
theorem Zn1{p:Pf}{r:CC}(h1:PC E 226 [.agg c.view,.agg (Pf.mk 20 0 (.mk 0 []) [] [] [p]).view] (Cx r)):PC E 180 [.agg c.view,.agg (Pf.mk 20 0 (.mk 0 []) [] [] [p]).view] (Cx r):=by
 refine M.F Tryz.func180 ?_;(repeat' first|refine M.gw ?_|refine M.c2 (h1) ?_|refine M.bl ?_|fail)
 rfl
theorem Ycd{t:Tm}(hc:c.ok)(ht:t.full<=300000):PC E 180 [.agg c.view,.agg (Pf.mk 18 0 (.mk 0 []) [t] [] []).view] (Cx (JY t c)):=by
 have h1:=GO t t (by omega) (by omega);have h2:=Ro c t 1 (by omega) (by have:=hc.sum;omega);unfold JY;refine M.F Tryz.func180 ?_;(repeat' first|refine M.gw ?_|refine M.c2 (h1) ?_|refine M.c2 (h2) ?_|refine M.bl ?_|fail)
 rfl
end
theorem Zzz(p:Pf):p.shape=true->p.small=true->KQ p:=by
 induction p using Pf.ind with
 |h p ih=>
  intro hs hm c hc;refine Ztd hc (Zz6 hs hc) ?_;obtain⟨h1,h2,h3,h4⟩:=zh hs;obtain⟨m1,m2,m3⟩:=Zm6 hm;obtain⟨nd,n1,n2,n3,n4,n5,n6,n7,n8,n9⟩:=QU hs;have hA:∀a∈p.args,KQ a/\B4 (Cf a):=fun a ha=>⟨ih a ha (h4 a ha) (m3 a ha),MT a (h4 a ha)⟩;have hT:∀t∈p.terms,t.full<=300000:=fun t ht=>Yaf (h2 t ht) (m1 t ht);have hF:∀f∈p.Ac,f.full<=300000:=fun f hf=>Ych (h3 f hf) (m2 f hf);have hS:∀f∈p.Ac,f.shape=true:=h3;have hk:p.kind=1\/p.kind=2\/p.kind=3\/p.kind=4\/p.kind=5\/p.kind=6\/p.kind=7\/p.kind=8\/p.kind=9\/p.kind=10\/p.kind=11\/p.kind=12\/p.kind=13\/p.kind=14\/p.kind=15\/p.kind=16\/p.kind=17\/p.kind=18\/p.kind=19\/p.kind=20:=by omega
  clear ih hs hm h1 h2 h3 h4 m1 m2 m3 n9;obtain⟨k,i,s,ts,fs,zs⟩:=p;simp only[Pf.kind,Pf.index,Pf.ty,Pf.terms,Pf.Ac,Pf.args] at*;have hroom:c.tys.length+1<=16->∀s:Ty,s.err=0->(c.below [s]).ok:=fun h s hs=>hc.below (l:=[s]) h (by simpa using hs);rcases hk with rfl|rfl|rfl|rfl|rfl|rfl|rfl|rfl|rfl|rfl|rfl|rfl|rfl|rfl|rfl|rfl|rfl|rfl|rfl|rfl;all_goals(simp only[BO,reduceIte,Int.reduceEq,or_false,false_or,or_true,true_or,Option.some.injEq] at n1)
  all_goals(subst n1)
  all_goals(simp only[forall_const,reduceCtorEq,false_implies,Bool.true_eq_false,Bool.false_eq_true] at n2 n3 n4 n6 n7 n8)
  all_goals(first|(obtain rfl:=O7 n2)|(obtain⟨t,rfl⟩:=Qq n2))
  all_goals(first|(obtain rfl:=O7 n3)|(obtain⟨f,rfl⟩:=Qq n3))
  all_goals(first|(obtain rfl:=O7 n4)|(obtain⟨a,rfl⟩:=Qq n4)|(obtain⟨a,b,rfl⟩:=ln2 n4))
  all_goals(try subst n6)
  all_goals(try subst n8)
  ·exact Yeo hc i n5
  ·exact Ygq hc i n5
  ·exact Yez hc ((hA a (by simp)).1 c hc) ((hA b (by simp)).1 c hc) ((hA a (by simp)).2 c hc) ((hA b (by simp)).2 c hc)
  ·exact Wv hc 0 (by omega) ((hA a (by simp)).1 c hc) ((hA a (by simp)).2 c hc)
  ·exact Wv hc 1 (by omega) ((hA a (by simp)).1 c hc) ((hA a (by simp)).2 c hc)
  ·exact Ycm hc (hF f (by simp)) (fun t0 r0=>(hA a (by simp)).1 _ (hc.AA (wy r0).2 (x6 t0).1 (x6 t0).2))
    (fun t0 r0=>by
     have ho:=hc.AA (wy r0).2 (x6 t0).1 (x6 t0).2;exact(Gr ho ((hA a (by simp)).2 _ ho)).1)
  ·exact Ybl hc ((hA a (by simp)).1 c hc) ((hA b (by simp)).1 c hc) ((hA a (by simp)).2 c hc) ((hA b (by simp)).2 c hc)
  ·exact Yaz (VK hc (.inl rfl) n7 (fun r0=>(hA a (by simp)).1 _ (hroom (wy r0).1 s n7)) (fun r0=>Gr (hroom (wy r0).1 s n7) ((hA a (by simp)).2 _ (hroom (wy r0).1 s n7))))
  ·exact Yev (X3 hc (.inl rfl) (hT t (by simp)) ((hA a (by simp)).1 c hc) ((hA a (by simp)).2 c hc))
  ·exact Ybf (UM (r0:=Cf a) hc (.inl rfl) (hF f (by simp)) (hT t (by simp)) (JL hc (by have:=VI f;have:=hF f (by simp);omega) (hT t (by simp)) ((hA a (by simp)).1 c hc) ((hA a (by simp)).2 c hc)) (vf (hA a (by simp)).2 hc _ _))
  ·exact Ztw (Up (r0:=Cf a) (r1:=Cf b) hc (.inl rfl) rfl rfl ((hA a (by simp)).1 c hc) ((hA a (by simp)).2 c hc) (fun h=>(hA b (by simp)).1 _ h) (fun h=>(hA b (by simp)).2 _ h))
  ·exact Zwu (VK hc (.inr rfl) n7 (fun r0=>(hA a (by simp)).1 _ (hroom (wy r0).1 s n7)) (fun r0=>Gr (hroom (wy r0).1 s n7) ((hA a (by simp)).2 _ (hroom (wy r0).1 s n7))))
  ·exact Ybv (X3 hc (.inr rfl) (hT t (by simp)) ((hA a (by simp)).1 c hc) ((hA a (by simp)).2 c hc))
  ·exact Zzo (UM (r0:=Cf a) hc (.inr rfl) (hF f (by simp)) (hT t (by simp)) (JL hc (by have:=VI f;have:=hF f (by simp);omega) (hT t (by simp)) ((hA a (by simp)).1 c hc) ((hA a (by simp)).2 c hc)) (vf (hA a (by simp)).2 hc _ _))
  ·exact Zs6 (Up (r0:=Cf a) (r1:=Cf b) hc (.inr rfl) rfl rfl ((hA a (by simp)).1 c hc) ((hA a (by simp)).2 c hc) (fun h=>(hA b (by simp)).1 _ h) (fun h=>(hA b (by simp)).2 _ h))
  ·have hff:=hF f (by simp);exact Zyp (Yj9 (r0:=Cf a) (r1:=Cf b) hc hff (hT t (by simp)) (JL hc (by omega) (by decide) ((hA a (by simp)).1 c hc) ((hA a (by simp)).2 c hc))
    (fun h=>JL h (by have:=(uu (hS f (by simp)) (fr:=1) (by_:=1) (by omega)).2.2;omega) (by decide) ((hA b (by simp)).1 _ h) ((hA b (by simp)).2 _ h))
    (vf (hA a (by simp)).2 hc _ _) (fun h=>by have:=vf (hA b (by simp)).2 h (f.AV 1 1) (sT (vT 0));simpa[Ck.below,Ck.AA] using this))
  ·have hff:=hF f (by simp);exact Ztl (Yfj (r0:=Cf a) (r1:=Cf b) hc hff (hT t (by simp)) (JL hc (by omega) (by decide) ((hA a (by simp)).1 c hc) ((hA a (by simp)).2 c hc))
    (fun h=>JL h (by have:=(uu (hS f (by simp)) (fr:=1) (by_:=2) (by omega)).2.2;omega) (by decide) ((hA b (by simp)).1 _ h) ((hA b (by simp)).2 _ h))
    (vf (hA a (by simp)).2 hc _ _) (fun h=>by have:=vf (hA b (by simp)).2 h (f.AV 1 2) Cb;simpa[Ck.below,Ck.AA] using this))
  ·exact Ycd hc (hT t (by simp))
  ·exact Zps (Yac (r0:=Cf a) (r1:=Cf b) hc rfl (hF f (by simp)) ((hA a (by simp)).1 c hc) ((hA a (by simp)).2 c hc) (fun t ht=>JL hc (by have:=hF f (by simp);omega) ht ((hA b (by simp)).1 c hc) ((hA b (by simp)).2 c hc)))
  ·exact Zn1 (Zva (r0:=Cf a) hc rfl ((hA a (by simp)).1 c hc) ((hA a (by simp)).2 c hc))
end Go.Ab
