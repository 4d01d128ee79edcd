/- A part of this seat's proofs. No conditions. -/
import Derived.Test.YtmhcohcihajegaaGreatDoorHS17
namespace Go.Ab
open Go Go.Proofs
set_option maxRecDepth 100000
set_option maxHeartbeats 4000000
set_option linter.all false
theorem Zsh:∀(b:Nat) (p:Pf),p.full<=b->b<549755813888->PC E 88 [.agg p.view] (.agg p.view):=by
 intro b;induction b with
 |zero=>intro f h;have:=f.full_pos;omega
 |succ b ih=>
 intro p hsz hb;have hsz':=p.full_eq;have hlen:=zg Pf.full Pf.full_pos p.args;have hlen1:=zg Fm.full Fm.full_pos p.forms;have hlen2:=zg Tm.full Tm.full_pos p.terms;have hty:=vq _ p.ty (Nat.le_refl _) (by omega);refine M.F Tryz.func88 ?_;refine M.w1 @hty ?_;refine M.rt p.terms.length
  (fun m=>([(1,.ptr 0 0),(2,.ptr 1 0),(3,.ptr 2 0),(19,.s .tm p.terms),(20,.i p.terms.length),(21,.i m)],⟨4,[(0,.var p.view),(1,.var [.i 0,.i 0,.i 0,.slice .nil (.t .ty []),.slice .nil (.t .tm []),.slice .nil (.t .fm []),.slice .nil (.t .pf [])]),(2,.var [.i p.kind,.i p.index,.i p.ty.kind,.s .ty p.ty.args,.slice (.own 3) (.t .tm (p.terms.take m)),.slice .nil (.t .fm []),.slice .nil (.t .pf [])]),(3,.row)]⟩))
  (M.W rn3) ?_ ?_
 ·intro m hm _;have hs2:=zc Tm.full (List.getElem_mem hm);(repeat' first|refine M.w0 ?_|refine M.c2 (Za8 _ _ (Nat.le_refl _) ?_) ?_|exact M.lt|fail);exact⟨rfl,trivial,(M.W [some 0,some 1,some 2,some 5] (he:=(by(repeat'(first|exact trivial|exact Or.inr ⟨_,U,rfl⟩|refine And.intro ?_ ?_|refine⟨_,U,_,U,_,U,?_⟩|exact VLe.refl _|exact VLe.of_eq (by simp[Sto.upd,List.take_append_getElem])));done)))⟩
 ·intro _;simp only[List.take_length];refine M.w0 ?_;refine M.rt p.forms.length
   (fun m=>([(1,.ptr 0 0),(2,.ptr 1 0),(3,.ptr 2 0),(34,.s .fm p.forms),(35,.i p.forms.length),(36,.i m)],⟨5,[(0,.var p.view),(1,.var [.i 0,.i 0,.i 0,.slice .nil (.t .ty []),.slice .nil (.t .tm []),.slice .nil (.t .fm []),.slice .nil (.t .pf [])]),(2,.var [.i p.kind,.i p.index,.i p.ty.kind,.s .ty p.ty.args,.slice (.own 3) (.t .tm p.terms),.slice (.own 4) (.t .fm (p.forms.take m)),.slice .nil (.t .pf [])]),(3,.row),(4,.row)]⟩))
   (M.W rn4) ?_ ?_
  ·intro m hm _;have hs2:=zc Fm.full (List.getElem_mem hm);(repeat' first|refine M.w0 ?_|refine M.c2 (uu _ _ (Nat.le_refl _) ?_) ?_|exact M.lt|fail);exact⟨rfl,trivial,(M.W [some 0,some 1,some 2,some 3,some 6] (he:=(by(repeat'(first|exact trivial|exact Or.inr ⟨_,U,rfl⟩|refine And.intro ?_ ?_|refine⟨_,U,_,U,_,U,?_⟩|exact VLe.refl _|exact VLe.of_eq (by simp[Sto.upd,List.take_append_getElem])));done)))⟩
  ·intro _;simp only[List.take_length];refine M.w0 ?_;refine M.rt p.args.length
    (fun m=>([(1,.ptr 0 0),(2,.ptr 1 0),(3,.ptr 2 0),(49,.s .pf p.args),(50,.i p.args.length),(51,.i m)],⟨6,[(0,.var p.view),(1,.var [.i 0,.i 0,.i 0,.slice .nil (.t .ty []),.slice .nil (.t .tm []),.slice .nil (.t .fm []),.slice .nil (.t .pf [])]),(2,.var [.i p.kind,.i p.index,.i p.ty.kind,.s .ty p.ty.args,.slice (.own 3) (.t .tm p.terms),.slice (.own 4) (.t .fm p.forms),.slice (.own 5) (.t .pf (p.args.take m))]),(3,.row),(4,.row),(5,.row)]⟩))
    (M.W rn5) ?_ ?_
   ·intro m hm _;have hs2:=zc Pf.full (List.getElem_mem hm);(repeat' first|refine M.w0 ?_|refine M.c2 (ih _ ?_ ?_) ?_|exact M.le|exact M.lt|fail);exact⟨rfl,trivial,(M.W [some 0,some 1,some 2,some 3,some 4,some 7] (he:=(by(repeat'(first|exact trivial|exact Or.inr ⟨_,U,rfl⟩|refine And.intro ?_ ?_|refine⟨_,U,_,U,_,U,?_⟩|exact VLe.refl _|exact VLe.of_eq (by simp[Sto.upd,List.take_append_getElem])));done)))⟩
   ·intro _;simp only[List.take_length];refine M.w0 ?_
    rfl
theorem Zb6(k:Int)(l:List Pf)(hl:l.length<1000000)(h:∀p∈l,p.full<500000000000):PC E 30 [.i k,.s .pf l] (.agg (Pf.mk k 0 (.mk 0 []) [] [] l).view):=by
 refine M.F Tryz.func30 ?_;refine M.w0 ?_;refine M.rt l.length
  (fun m=>([(4,.ptr 0 0),(5,.ptr 1 0),(10,.s .pf l),(11,.i l.length),(12,.i m)],⟨3,[(0,.var [.i 0,.i 0,.i 0,.slice .nil (.t .ty []),.slice .nil (.t .tm []),.slice .nil (.t .fm []),.slice .nil (.t .pf [])]),(1,.var [.i k,.i 0,.i 0,.slice .nil (.t .ty []),.slice .nil (.t .tm []),.slice .nil (.t .fm []),.slice (.own 2) (.t .pf (l.take m))]),(2,.row)]⟩))
  (M.W rn2) ?_ ?_
 ·intro m hm _;have hc:=Zsh _ l[m] (Nat.le_refl _) (by have:=h _ (List.getElem_mem hm);omega);refine M.w1 @hc ?_;exact⟨rfl,trivial,(M.W [some 0,some 1,some 4] (he:=(by(repeat'(first|exact trivial|exact Or.inr ⟨_,U,rfl⟩|refine And.intro ?_ ?_|refine⟨_,U,_,U,_,U,?_⟩|exact VLe.refl _|exact VLe.of_eq (by simp[Sto.upd,List.take_append_getElem])));done)))⟩
 ·intro _;simp only[List.take_length];refine M.w0 ?_
  rfl
theorem Zmx(k:Int)(t:Tm)(p:Pf)(ht:t.full<500000000000)(hp:p.full<500000000000):PC E 57 [.i k,.agg t.view,.agg p.view] (.agg (Pf.mk k 0 (.mk 0 []) [t] [] [p]).view):=by
 have h1:=Zb6 k [p] (by simp) (by simp;omega);have h2:=Za8 _ t (Nat.le_refl _) (by omega);refine M.F Tryz.func57 ?_;refine M.w2 @h1 @h2 ?_
 rfl
theorem Zfm(f:Fm)(p:Pf)(hf:f.full<500000000000)(hp:p.full<500000000000):PC E 22 [.agg f.view,.agg p.view] (.agg (Pf.mk 6 0 (.mk 0 []) [] [f] [p]).view):=by
 have h1:=Zb6 6 [p] (by simp) (by simp;omega);have h2:=uu _ f (Nat.le_refl _) (by omega);refine M.F Tryz.func22 ?_;refine M.w2 @h1 @h2 ?_
 rfl
theorem Zfs(k:Int)(s:Ty)(p:Pf)(hs:s.size<500000000000)(hp:p.full<500000000000):PC E 55 [.i k,.agg s.view,.agg p.view] (.agg (Pf.mk k 0 s [] [] [p]).view):=by
 have h1:=Zb6 k [p] (by simp) (by simp;omega);have h2:=vq _ s (Nat.le_refl _) (by omega);refine M.F Tryz.func55 ?_;refine M.w2 @h1 @h2 ?_
 rfl
theorem Ze3(k:Int)(f:Fm)(t:Tm)(p:Pf)(hf:f.full<500000000000)(ht:t.full<500000000000)(hp:p.full<500000000000):PC E 63 [.i k,.agg f.view,.agg t.view,.agg p.view] (.agg (Pf.mk k 0 (.mk 0 []) [t] [f] [p]).view):=by
 have h1:=Zmx k t p ht hp;have h2:=uu _ f (Nat.le_refl _) (by omega);refine M.F Tryz.func63 ?_;refine M.w2 @h1 @h2 ?_
 rfl
theorem Zl8(k:Int)(f:Fm)(t:Tm)(p q:Pf)(hf:f.full<500000000000)(ht:t.full<500000000000)(hp:p.full<500000000000)(hq:q.full<500000000000):PC E 33 [.i k,.agg f.view,.agg t.view,.agg p.view,.agg q.view] (.agg (Pf.mk k 0 (.mk 0 []) [t] [f] [p,q]).view):=by
 have h1:=Zb6 k [p,q] (by simp) (by intro x hx;simp only[List.mem_cons,List.not_mem_nil,or_false] at hx;rcases hx with rfl|rfl<;>omega);have h2:=uu _ f (Nat.le_refl _) (by omega);have h3:=Za8 _ t (Nat.le_refl _) (by omega);refine M.F Tryz.func33 ?_;refine M.w3 @h1 @h2 @h3 ?_
 rfl
theorem Zab(t:Tm)(ht:t.full<500000000000):PC E 28 [.agg t.view] (.agg (Pf.mk 18 0 (.mk 0 []) [t] [] []).view):=by
 have h2:=Za8 _ t (Nat.le_refl _) (by omega);refine M.F Tryz.func28 ?_;refine M.w1 @h2 ?_
 rfl
theorem Zk9(f:Fm)(p q:Pf)(hf:f.full<500000000000)(hp:p.full<500000000000)(hq:q.full<500000000000):PC E 66 [.agg f.view,.agg p.view,.agg q.view] (.agg (Pf.mk 19 0 (.mk 0 []) [] [f] [p,q]).view):=by
 have h1:=Zb6 19 [p,q] (by simp) (by intro x hx;simp only[List.mem_cons,List.not_mem_nil,or_false] at hx;rcases hx with rfl|rfl<;>omega);have h2:=uu _ f (Nat.le_refl _) (by omega);refine M.F Tryz.func66 ?_;refine M.w2 @h1 @h2 ?_
 rfl
theorem Zh8(c:Ck)(hc:c.ok)(l:List Ty)(hl:0<l.length)(hl2:l.length<=2):PC E 190 [.agg c.view,.s .ty l] (.agg (c.below l).view):=by
 have hlen:=hc.len;have hnh:=hc.nh;refine M.F Tryz.func190 ?_;refine M.w0 ?_;refine M.rt c.hyps.length
  (fun m=>([(1,.s .ty l),(2,.ptr 0 0),(4,.ptr 1 0),(5,.ptr 3 0),(23,.s .fm c.hyps),(24,.i c.hyps.length),(25,.i m)],⟨5,[(0,.var c.view),(1,.var [.slice .nil (.t .fm []),.slice .nil (.t .ty []),.slice .nil (.t .fm [])]),(2,.row),(3,.var [.s .fm c.lems,.slice (.own 2) (.t .ty (c.tys++l)),.slice (.own 4) (.t .fm ((c.hyps.take m).map fun f=>f.lft 0 l.length))]),(4,.row)]⟩))
  (M.W rn4) ?_ ?_
 ·intro m hm _;obtain⟨h1,h2⟩:=hc.hyps c.hyps[m] (List.getElem_mem hm);have s:=(Fm.err_iff _).1 h1;have hcall:=Zf7 h2 s.1 (by omega) (by omega) 0 l.length (by omega) (by omega);refine M.w1 @hcall ?_;exact⟨rfl,trivial,(M.W [some 0,some 1,some 2,some 3,some 6] (he:=(by(repeat'(first|exact trivial|exact Or.inr ⟨_,U,rfl⟩|refine And.intro ?_ ?_|refine⟨_,U,_,U,_,U,?_⟩|exact VLe.refl _|exact VLe.of_eq (by simp[Sto.upd,ym _ _ _ hm])));done)))⟩
 ·intro _;simp only[List.take_length];refine M.w0 ?_
  rfl
theorem Ztp:∀{l:List Tm} {m:Nat} (hm:m<l.length),(∀j (hj:j<l.length),j<m->(xr l[j] 1000).2.2=0)->(xr l[m] 1000).2.2≠0->u2 l=([],(xr l[m] 1000).2.2)
 |[],m,hm,_,_=>by simp at hm
 |x::l,0,hm,_,h=>by simp only[u2,List.getElem_cons_zero] at h ⊢;rw[if_pos h]
 |x::l,m+1,hm,h0,h=>by
  have h1:=h0 0 (by simp) (by omega);simp only[List.getElem_cons_zero] at h1;simp only[List.getElem_cons_succ] at h ⊢;have h2:=Ztp (l:=l) (m:=m) (by simpa using hm) (fun j hj hjm=>by have:=h0 (j+1) (by simpa using hj) (by omega);simpa using this) h;simp only[u2];rw[if_neg (by simp[h1]),h2,if_pos h]
theorem Zla:∀{l:List Tm},(∀j (hj:j<l.length),j<l.length->(xr l[j] 1000).2.2=0)->u2 l=(l.map fun t=>(xr t 1000).1,0)
 |[],_=>rfl
 |x::l,h0=>by
  have h1:=h0 0 (by simp) (by simp);simp only[List.getElem_cons_zero] at h1;have h2:=Zla (l:=l) fun j hj _=>by have:=h0 (j+1) (by simpa using hj) (by simpa using hj);simpa using this
  simp only[u2];rw[if_neg (by simp[h1]),h2];rfl
theorem Zn7:∀{l:List Fm} {m:Nat} (hm:m<l.length),(∀j (hj:j<l.length),j<m->(xf l[j]).2=0)->(xf l[m]).2≠0->xm l=([],(xf l[m]).2)
 |[],m,hm,_,_=>by simp at hm
 |x::l,0,hm,_,h=>by simp only[xm,List.getElem_cons_zero] at h ⊢;rw[if_pos h]
 |x::l,m+1,hm,h0,h=>by
  have h1:=h0 0 (by simp) (by omega);simp only[List.getElem_cons_zero] at h1;simp only[List.getElem_cons_succ] at h ⊢;have h2:=Zn7 (l:=l) (m:=m) (by simpa using hm) (fun j hj hjm=>by have:=h0 (j+1) (by simpa using hj) (by omega);simpa using this) h;simp only[xm];rw[if_neg (by simp[h1]),h2,if_pos h]
theorem Ziq:∀{l:List Fm},(∀j (hj:j<l.length),j<l.length->(xf l[j]).2=0)->xm l=(l.map fun t=>(xf t).1,0)
 |[],_=>rfl
 |x::l,h0=>by
  have h1:=h0 0 (by simp) (by simp);simp only[List.getElem_cons_zero] at h1;have h2:=Ziq (l:=l) fun j hj _=>by have:=h0 (j+1) (by simpa using hj) (by simpa using hj);simpa using this
  simp only[xm];rw[if_neg (by simp[h1]),h2];rfl
theorem Zz6:∀(n:Nat) (f:Fm),f.full<=n->n<274877906944->PC E 198 [.agg f.view] (.tup [.agg (xf f).1.view,.i (xf f).2]):=by
 intro n;induction n with
 |zero=>intro f h;have:=f.full_pos;omega
 |succ n ih=>
 intro f hsz hn;have hsz':=f.full_eq;have hlen:=zg Fm.full Fm.full_pos f.args;have hlen2:=zg Tm.full Tm.full_pos f.terms;have he:=Zt4 f;refine M.F Tryz.func198 ?_;refine M.w0 ?_;refine M.rp f.terms.length (fun m=>∀j (hj:j<f.terms.length),j<m->(xr f.terms[j] 1000).2.2=0)
  (fun m=>([(1,.ptr 0 0),(2,.ptr 1 0),(4,.ptr 2 0),(20,.s .tm f.terms),(21,.i f.terms.length),(22,.i m)],⟨4,[(0,.var f.view),(1,.var [.i 0,.i 0,.slice .nil (.t .ty []),.slice .nil (.t .tm []),.slice .nil (.t .fm [])]),(2,.var [.i f.kind,.i f.ty.kind,.s .ty f.ty.args,.slice (.own 3) (.t .tm ((f.terms.take m).map fun t=>(xr t 1000).1)),.slice .nil (.t .fm [])]),(3,.row)]⟩))
  (fun j hj h=>by omega) (M.W rn3) ?_ ?_
 ·intro m hm hP;have hs2:=zc Tm.full (List.getElem_mem hm);have hc:=Zit f.terms[m] 1000 (by omega);by_cases hx:(xr f.terms[m] 1000).2.2=0
  ·rw[hx] at hc;refine M.w1 @hc ?_;exact⟨rfl,yj (p:=fun t=>(xr t 1000).2.2=0) hm hP hx,(M.W [some 0,some 1,some 2,some 6] (he:=(by(repeat'(first|exact trivial|exact Or.inr ⟨_,U,rfl⟩|refine And.intro ?_ ?_|refine⟨_,U,_,U,_,U,?_⟩|exact VLe.refl _|exact VLe.of_eq (by simp[Sto.upd,ym _ _ _ hm])));done)))⟩
  ·have e1:=Ztp hm hP hx;rw[e1,if_pos hx] at he;rw[he];(repeat' first|refine M.w1 @hc ?_|refine M.cs ?_ ?_<;>intro h|fail);all_goals first
    |rfl
    |(exfalso;simp at h;exact hx h)
 ·intro hP;have e1:=Zla (l:=f.terms) fun j hj _=>hP j hj hj;rw[e1,if_neg (by simp)] at he;simp only[List.take_length];refine M.w0 ?_;refine M.rp f.args.length (fun m=>∀j (hj:j<f.args.length),j<m->(xf f.args[j]).2=0)
   (fun m=>([(1,.ptr 0 0),(2,.ptr 1 0),(4,.ptr 2 0),(44,.s .fm f.args),(45,.i f.args.length),(46,.i m)],⟨5,[(0,.var f.view),(1,.var [.i 0,.i 0,.slice .nil (.t .ty []),.slice .nil (.t .tm []),.slice .nil (.t .fm [])]),(2,.var [.i f.kind,.i f.ty.kind,.s .ty f.ty.args,.slice (.own 3) (.t .tm (f.terms.map fun t=>(xr t 1000).1)),.slice (.own 4) (.t .fm ((f.args.take m).map fun x=>(xf x).1))]),(3,.row),(4,.row)]⟩))
   (fun j hj h=>by omega) (M.W rn4) ?_ ?_
  ·intro m hm hP2;have hs2:=zc Fm.full (List.getElem_mem hm);have hc:=ih f.args[m] (by omega) (by omega);by_cases hx:(xf f.args[m]).2=0
   ·rw[hx] at hc;refine M.w1 @hc ?_;exact⟨rfl,yj (p:=fun t=>(xf t).2=0) hm hP2 hx,(M.W [some 0,some 1,some 2,some 3,some 7] (he:=(by(repeat'(first|exact trivial|exact Or.inr ⟨_,U,rfl⟩|refine And.intro ?_ ?_|refine⟨_,U,_,U,_,U,?_⟩|exact VLe.refl _|exact VLe.of_eq (by simp[Sto.upd,ym _ _ _ hm])));done)))⟩
   ·have e2:=Zn7 hm hP2 hx;rw[e2,if_pos hx] at he;rw[he];(repeat' first|refine M.w1 @hc ?_|refine M.cs ?_ ?_<;>intro h|fail);all_goals first
     |rfl
     |(exfalso;simp at h;exact hx h)
  ·intro hP2;have e2:=Ziq (l:=f.args) fun j hj _=>hP2 j hj hj;rw[e2,if_neg (by simp)] at he;simp only[List.take_length];rw[he];refine M.w0 ?_
   rfl
end Go.Ab
