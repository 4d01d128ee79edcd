/- A part of this seat's proofs. No conditions. -/
import Derived.Test.YtmhcohcihajegaaGreatDoorCS13
namespace Go.Ab
open Go Go.Proofs
set_option maxRecDepth 100000
set_option maxHeartbeats 4000000
set_option linter.all false
theorem aN:∀(b:Nat) (p:Pf),p.full<=b->b<549755813888->PC E 88 [.agg p.view] (.agg p.view):=by
 intro b;induction b with
 |zero=>intro f h;have:=f.Ad;omega
 |succ b ih=>
 intro p hsz hb;have hsz':=p.Ag;have hlen:=ze Pf.full Pf.Ad p.args;have hlen1:=ze Fm.full Fm.Ad p.Ae;have hlen2:=ze Tm.full Tm.Ad p.terms;have hty:=uh _ p.ty (fB _) kn;refine M.F Tryz.func88 ?_;refine M.w1 @hty ?_;refine M.rt p.terms.length
  (fun m=>([(1,.ptr 0 0),(2,.ptr 1 0),(3,.ptr 2 0),(19,.s .tm p.terms),(20,.i p.terms.length),(21,.i m)],⟨4,[(0,.var p.view),(1,.var [.i 0,.i 0,.i 0,.slice .nil (.t .ty []),.slice .nil (.t .tm []),.slice .nil (.t .fm []),.slice .nil (.t .pf [])]),(2,.var [.i p.kind,.i p.index,.i p.ty.kind,.s .ty p.ty.args,.slice (.own 3) (.t .tm (p.terms.take m)),.slice .nil (.t .fm []),.slice .nil (.t .pf [])]),(3,.row)]⟩))
  (M.W JU) ?_ ?_
 .exact ql
 .intro _;simp only[fH];refine M.w0 ?_;refine M.rt p.Ae.length
   (fun m=>([(1,.ptr 0 0),(2,.ptr 1 0),(3,.ptr 2 0),(34,.s .fm p.Ae),(35,.i p.Ae.length),(36,.i m)],⟨5,[(0,.var p.view),(1,.var [.i 0,.i 0,.i 0,.slice .nil (.t .ty []),.slice .nil (.t .tm []),.slice .nil (.t .fm []),.slice .nil (.t .pf [])]),(2,.var [.i p.kind,.i p.index,.i p.ty.kind,.s .ty p.ty.args,.slice (.own 3) (.t .tm p.terms),.slice (.own 4) (.t .fm (p.Ae.take m)),.slice .nil (.t .pf [])]),(3,.row),(4,.row)]⟩))
   (M.W Ke) ?_ ?_
  .intro m hm _;have hs2:=zc Fm.full (fA hm);(repeat' first|refine M.w0 ?_|refine M.c2 (Jd _ _ (fB _) ?_) ?_|exact M.lt|fail);exact⟨rfl,trivial,(M.W [some 0,some 1,some 2,some 3,some 6] (he:=(by(repeat'(first|exact trivial|exact Or.inr ⟨_,U,rfl⟩|refine And.intro ?_ ?_|refine⟨_,U,_,U,_,U,?_⟩|exact Ap.refl _|exact Ap.of_eq kQ));done)))⟩
  .intro _;simp only[fH];refine M.w0 ?_;refine M.rt p.args.length
    (fun m=>([(1,.ptr 0 0),(2,.ptr 1 0),(3,.ptr 2 0),(49,.s .pf p.args),(50,.i p.args.length),(51,.i m)],⟨6,[(0,.var p.view),(1,.var [.i 0,.i 0,.i 0,.slice .nil (.t .ty []),.slice .nil (.t .tm []),.slice .nil (.t .fm []),.slice .nil (.t .pf [])]),(2,.var [.i p.kind,.i p.index,.i p.ty.kind,.s .ty p.ty.args,.slice (.own 3) (.t .tm p.terms),.slice (.own 4) (.t .fm p.Ae),.slice (.own 5) (.t .pf (p.args.take m))]),(3,.row),(4,.row),(5,.row)]⟩))
    (M.W Qu) ?_ ?_
   .intro m hm _;have hs2:=zc Pf.full (fA hm);(repeat' first|refine M.w0 ?_|refine M.c2 (ih _ ?_ ?_) ?_|exact M.le|exact M.lt|fail);exact⟨rfl,trivial,(M.W [some 0,some 1,some 2,some 3,some 4,some 7] (he:=(by(repeat'(first|exact trivial|exact Or.inr ⟨_,U,rfl⟩|refine And.intro ?_ ?_|refine⟨_,U,_,U,_,U,?_⟩|exact Ap.refl _|exact Ap.of_eq kQ));done)))⟩
   .exact qt
theorem Fi(k:Int)(l:List Pf)(hl:l.length<1000000)(h:∀p∈l,p.full<500000000000):PC E 30 [.i k,.s .pf l] (.agg (Pf.mk k 0 (.mk 0 []) [] [] l).view):=by
 refine M.F Tryz.func30 ?_;refine M.w0 ?_;refine M.rt l.length
  (fun m=>([(4,.ptr 0 0),(5,.ptr 1 0),(10,.s .pf l),(11,.i l.length),(12,.i m)],⟨3,[(0,.var [.i 0,.i 0,.i 0,.slice .nil (.t .ty []),.slice .nil (.t .tm []),.slice .nil (.t .fm []),.slice .nil (.t .pf [])]),(1,.var [.i k,.i 0,.i 0,.slice .nil (.t .ty []),.slice .nil (.t .tm []),.slice .nil (.t .fm []),.slice (.own 2) (.t .pf (l.take m))]),(2,.row)]⟩))
  (M.W RG) ?_ ?_
 .intro m hm _;have hc:=aN _ l[m] (fB _) (by have:=h _ (fA hm);omega);refine M.w1 @hc ?_;exact⟨rfl,trivial,(M.W [some 0,some 1,some 4] (he:=(by(repeat'(first|exact trivial|exact Or.inr ⟨_,U,rfl⟩|refine And.intro ?_ ?_|refine⟨_,U,_,U,_,U,?_⟩|exact Ap.refl _|exact Ap.of_eq kQ));done)))⟩
 .exact qt
theorem Qn(k:Int)(t:Tm)(p:Pf)(ht:t.full<500000000000)(hp:p.full<500000000000):PC E 57 [.i k,.agg t.view,.agg p.view] (.agg (Pf.mk k 0 (.mk 0 []) [t] [] [p]).view):=by
 have h1:=Fi k [p] ko kC;have h2:=Kp _ t (fB _) kn;refine M.F Tryz.func57 ?_;refine M.w2 @h1 @h2 ?_
 rfl
theorem UR(f:Fm)(p:Pf)(hf:f.full<500000000000)(hp:p.full<500000000000):PC E 22 [.agg f.view,.agg p.view] (.agg (Pf.mk 6 0 (.mk 0 []) [] [f] [p]).view):=by
 have h1:=Fi 6 [p] ko kC;have h2:=Jd _ f (fB _) kn;refine M.F Tryz.func22 ?_;refine M.w2 @h1 @h2 ?_
 rfl
theorem NV(k:Int)(s:Ty)(p:Pf)(hs:s.size<500000000000)(hp:p.full<500000000000):PC E 55 [.i k,.agg s.view,.agg p.view] (.agg (Pf.mk k 0 s [] [] [p]).view):=by
 have h1:=Fi k [p] ko kC;have h2:=uh _ s (fB _) kn;refine M.F Tryz.func55 ?_;refine M.w2 @h1 @h2 ?_
 rfl
theorem LK(k:Int)(f:Fm)(t:Tm)(p:Pf)(hf:f.full<500000000000)(ht:t.full<500000000000)(hp:p.full<500000000000):PC E 63 [.i k,.agg f.view,.agg t.view,.agg p.view] (.agg (Pf.mk k 0 (.mk 0 []) [t] [f] [p]).view):=by
 have h1:=Qn k t p ht hp;have h2:=Jd _ f (fB _) kn;refine M.F Tryz.func63 ?_;refine M.w2 @h1 @h2 ?_
 rfl
theorem Po(k:Int)(f:Fm)(t:Tm)(p q:Pf)(hf:f.full<500000000000)(ht:t.full<500000000000)(hp:p.full<500000000000)(hq:q.full<500000000000):PC E 33 [.i k,.agg f.view,.agg t.view,.agg p.view,.agg q.view] (.agg (Pf.mk k 0 (.mk 0 []) [t] [f] [p,q]).view):=by
 have h1:=Fi k [p,q] ko (by intro x hx;simp only[fW,gm,or_false] at hx;rcases hx with rfl|rfl<;>omega);have h2:=Jd _ f (fB _) kn;have h3:=Kp _ t (fB _) kn;refine M.F Tryz.func33 ?_;refine M.w3 @h1 @h2 @h3 ?_
 rfl
theorem vj(t:Tm)(ht:t.full<500000000000):PC E 28 [.agg t.view] (.agg (Pf.mk 18 0 (.mk 0 []) [t] [] []).view):=by
 have h2:=Kp _ t (fB _) kn;refine M.F Tryz.func28 ?_;refine M.w1 @h2 ?_
 rfl
theorem YW(f:Fm)(p q:Pf)(hf:f.full<500000000000)(hp:p.full<500000000000)(hq:q.full<500000000000):PC E 66 [.agg f.view,.agg p.view,.agg q.view] (.agg (Pf.mk 19 0 (.mk 0 []) [] [f] [p,q]).view):=by
 have h1:=Fi 19 [p,q] ko (by intro x hx;simp only[fW,gm,or_false] at hx;rcases hx with rfl|rfl<;>omega);have h2:=Jd _ f (fB _) kn;refine M.F Tryz.func66 ?_;refine M.w2 @h1 @h2 ?_
 rfl
theorem Yfl:∀(n:Nat) (f:Fm) (g:List Ty),f.full<=n->n<100000000->f.shape=true->(∀x∈g,x.err=0)->g.length+n<274877906944->g.length+f.size<100000->PC E 185 [.s .ty g,.agg f.view] (.i (f.Fk g)):=by
 intro n;induction n with
 |zero=>intro f g h;have:=f.Ad;omega
 |succ n ih=>
 intro f g hsz hn hs hg hgl hgz;have hsz':=f.Ag;have hse:=f.size_eq;have hlen:=ze Fm.full Fm.Ad f.args;have hlen2:=ze Tm.full Tm.Ad f.terms;have he:=Fm.GS g f;have hq:=WV f.kind;refine M.F Tryz.func185 ?_;refine M.w0 ?_;refine M.rp f.terms.length (fun m=>∀j (hj:j<f.terms.length),j<m->tE g f.terms[j]=0)
  (fun m=>([(0,.s .ty g),(3,.ptr 0 0),(13,.s .tm f.terms),(14,.i f.terms.length),(15,.i m)],⟨1,[(0,.var f.view)]⟩))
  (fun j hj h=>kn) (M.W AJ) ?_ ?_
 .intro m hm hP;have hs2:=zc Tm.full (fA hm);have hc:=Ym g f.terms[m] kn hg kn;have hfi:tE g f.terms[m]≠0->f.Fk g=tE g f.terms[m]:=fun hx=>by
   have h1:=MX hm hP hx;rw[he,h1,if_pos hx]
  by_cases hx:(EM g f.terms[m]).2=0
  .by_cases hk:(EM g f.terms[m]).1.kind=1
   .have ht:tE g f.terms[m]=0:=by simp[tE,hx,hk]
    rw[hx] at hc;(repeat' first|refine M.w1 @hc ?_|refine M.cs ?_ ?_<;>intro h|fail)
    .exfalso;simp at h;exact h hk
    .exact ⟨rfl,ym (p:=fun t'=>tE g t'=0) hm hP ht,(M.W AJ)⟩
   .have ht:tE g f.terms[m]=7:=by simp[tE,hx,hk]
    rw[ht] at hfi;rw[hfi kq];rw[hx] at hc;(repeat' first|refine M.w1 @hc ?_|refine M.cs ?_ ?_<;>intro h|fail)
    .rfl
    .exfalso;simp at h;exact hk h
  .have ht:tE g f.terms[m]=(EM g f.terms[m]).2:=by simp[tE,hx]
   rw[ht] at hfi;rw[hfi hx];(repeat' first|refine M.w1 @hc ?_|refine M.cs ?_ ?_<;>intro h|fail)
   .rfl
   all_goals(exfalso;simp_all)
 .intro hP;have h0:ur (tE g) f.terms=0:=u4 fun j hj _=>hP j hj hj;rw[if_neg (by simp[h0])] at he;have htyl:=f.ty.size_pos;have hrest:∀g',g'=C6 g f->(∀x∈g',x.err=0)/\g'.length<=g.length+1/\∀(m:Nat) (hm:m<f.args.length),PC E 185 [.s .ty g',.agg f.args[m].view] (.i (f.args[m].Fk g')):=fun g' hg'=>by
   have hl:g'.length<=g.length+1:=by rw[hg'];simp only[C6];split<;>simp
   have hee:∀x∈g',x.err=0:=fun x hx=>by
    rw[hg'] at hx;simp only[C6] at hx;split at hx
    .rename_i hqk;rcases fV.1 hx with hx|hx
     .exact hg x hx
     .rw[gp] at hx;subst hx;have h1:=aD hqk;rw[hs] at h1;have h2:f.ty.ok=true:=by
       cases ho:f.ty.ok with
       |true=>rfl
       |false=>rw[ho] at h1;simp at h1
      rw[Wn] at h2;simpa using h2
    .exact hg x hx
   refine⟨hee,hl,fun m hm=> ?_⟩;have hs2:=zc Fm.full (fA hm);have hs3:=zc Fm.size (fA hm);exact ih f.args[m] g' kn kn (zp hs (fA hm)) hee kn kn
  cases hqk:wc f.kind with
  |true=>
   rw[hqk] at hq;have hcx:C6 g f=g++[f.ty]:=Jg hqk;obtain⟨_,_,hcall⟩:=hrest (g++[f.ty]) hcx.symm;rw[hcx] at he;refine M.w1 @hq ?_;refine M.rp f.args.length (fun m=>∀j (hj:j<f.args.length),j<m->f.args[j].Fk (g++[f.ty])=0)
    (fun m=>([(0,.s .ty (g++[f.ty])),(3,.ptr 0 0),(46,.s .fm f.args),(47,.i f.args.length),(48,.i m)],⟨1,[(0,.var f.view)]⟩))
    (fun j hj h=>kn) (M.W AJ) ?_ ?_
   .intro m hm hP;have hc:=hcall m hm;by_cases hx:f.args[m].Fk (g++[f.ty])=0
    .rw[hx] at hc;refine M.w1 @hc ?_;exact⟨rfl,ym (p:=fun t'=>Fm.Fk (g++[f.ty]) t'=0) hm hP hx,(M.W AJ)⟩
    .exact rF
   .intro hP;rw[he,u4 fun j hj _=>hP j hj hj];refine M.w0 ?_
    rfl
  |false=>
   rw[hqk] at hq;have hcx:C6 g f=g:=II (by simp[hqk]);obtain⟨_,_,hcall⟩:=hrest g hcx.symm;rw[hcx] at he;refine M.w1 @hq ?_;refine M.rp f.args.length (fun m=>∀j (hj:j<f.args.length),j<m->f.args[j].Fk g=0)
    (fun m=>([(0,.s .ty g),(3,.ptr 0 0),(46,.s .fm f.args),(47,.i f.args.length),(48,.i m)],⟨1,[(0,.var f.view)]⟩))
    (fun j hj h=>kn) (M.W AJ) ?_ ?_
   .intro m hm hP;have hc:=hcall m hm;by_cases hx:f.args[m].Fk g=0
    .rw[hx] at hc;refine M.w1 @hc ?_;exact⟨rfl,ym (p:=fun t'=>Fm.Fk g t'=0) hm hP hx,(M.W AJ)⟩
    .exact rF
   .intro hP;rw[he,u4 fun j hj _=>hP j hj hj];refine M.w0 ?_
    rfl
theorem RE(g:List Ty)(f:Fm)(hf:f.full<549755813888)(hg:∀x∈g,x.err=0)(hgl:g.length<90000):PC E 143 [.s .ty g,.agg f.view] (.i (va g f)):=by
 have h1:=MU f hf;by_cases he:f.err=0
 .have h2:=(Fm.Aa f).1 he;have h3:=yh he;have h4:=Yfl _ f g (fB _) kn h2.1 hg kn kn;have e:va g f=f.Fk g:=by simp only[va];rw[if_neg lB]
  rw[he] at h1;rw[e];refine M.F Tryz.func143 ?_;refine M.w2 @h1 @h4 ?_
  rfl
 .have e:va g f=f.err:=by simp only[va];rw[if_pos he]
  rw[e];refine M.F Tryz.func143 ?_;(repeat' first|refine M.w1 @h1 ?_|refine M.cs ?_ ?_<;>intro h|fail)
  .rfl
  .exfalso;simp at h;exact he h
theorem SD(g:List Ty)(f:Fm)(hf:f.full<549755813888)(hg:(g.map Ty.size).sum<1099511627776):PC E 97 [.s .ty g,.agg f.view] (.i (y8 g f)):=by
 have h1:=T0 g hg;by_cases he:ww g=0
 .have h2:=LW he;have h4:=RE g f hf h2.2 kn;have e:y8 g f=va g f:=by simp only[y8];rw[if_neg lB]
  rw[he] at h1;rw[e];refine M.F Tryz.func97 ?_;refine M.w2 @h1 @h4 ?_
  rfl
 .have e:y8 g f=ww g:=by simp only[y8];rw[if_pos he]
  rw[e];refine M.F Tryz.func97 ?_;(repeat' first|refine M.w1 @h1 ?_|refine M.cs ?_ ?_<;>intro h|fail)
  .rfl
  .exfalso;simp at h;exact he h
end Go.Ab
