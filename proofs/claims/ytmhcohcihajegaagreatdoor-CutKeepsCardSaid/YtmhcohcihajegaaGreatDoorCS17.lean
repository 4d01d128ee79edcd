/- A part of this seat's proofs. No conditions. -/
import Derived.Test.YtmhcohcihajegaaGreatDoorCS14
namespace Go.Ab
open Go Go.Proofs
set_option maxRecDepth 100000
set_option linter.all false
theorem Yla(at_ c i bl:Int)(hc:0<=c/\c<1099511627776)(hi:0<=i/\i<9223372036854775808)(hb:0<=bl/\bl<1099511627776):AC E 247 [.i i,.i bl,.ptr 0 0,.ptr 1 0] ⟨2,[(0,.var [.i at_]),(1,.var [.i c])]⟩ (.AP []) ⟨2,[(0,.var [.i at_]),(1,.var [.i (c+cnt at_ [(i,bl)])])]⟩:=by
 refine M.F Tryz.func247 ?_;(repeat' first|refine M.w0 ?_|refine M.cs ?_ ?_<;>intro h|fail)
 .have:i-bl=at_:=ku
  (exact M.n2 Bo (h6:=(by(repeat'(first|exact trivial|refine And.intro ?_ ?_|refine⟨_,U,_,U,_,U,?_⟩|exact Ap.refl _|exact Ap.of_eq (by simp[Ao.AH,vx,this])));done)) (h8:=oZ))
 .have:¬i-bl=at_:=ku
  (exact M.n2 Bo (h6:=(by(repeat'(first|exact trivial|refine And.intro ?_ ?_|refine⟨_,U,_,U,_,U,?_⟩|exact Ap.refl _|exact Ap.of_eq (by simp[Ao.AH,vx,this])));done)) (h8:=oZ))
theorem Zxn(at_:Int):∀(n:Nat) (t:Tm) (c:Int) (bl:Int),t.full<=n->n<1099511627776->0<=bl->bl+n<1099511627776->0<=c->c+t.full<1099511627776->(∀p∈t.vars bl,0<=p.1/\p.1<9223372036854775808)->AC E 129 [.agg t.view,.i bl,.ptr 0 0,.ptr 1 0] ⟨4,[(0,.var [.fn (.func 247) [] [.ptr 2 0,.ptr 3 0]]),(1,.var [.fn (.func 129) [] [.ptr 0 0,.ptr 1 0]]),(2,.var [.i at_]),(3,.var [.i c])]⟩ (.AP [])
 ⟨4,[(0,.var [.fn (.func 247) [] [.ptr 2 0,.ptr 3 0]]),(1,.var [.fn (.func 129) [] [.ptr 0 0,.ptr 1 0]]),(2,.var [.i at_]),(3,.var [.i (c+cnt at_ (t.vars bl))])]⟩:=by
 intro n;induction n with
 |zero=>intro t b bl h;have:=t.Ad;omega
 |succ n ih=>
 intro t c bl hsz hb hbl hbn hc0 hcn hix;have hsz':=Tm.Ag t;have hlen:=ze Tm.full Tm.Ad t.args;have hv:=Tm.AY bl t;have hi:t.kind=1->0<=t.index/\t.index<9223372036854775808:=fun h=>mG
 have hcb:t.kind=1->_:=fun h=>Yla at_ c t.index bl kn (hi h) kn;refine M.F Tryz.func129 ?_;(repeat' first|refine M.w0 ?_|refine M.cv (hcb ku) [2,3] 0 ?_|refine M.cs ?_ ?_<;>intro h|fail);all_goals
  have hup:up t.kind bl<=bl+1:=kU
  have hup0:0<=up t.kind bl:=kU
  refine M.rt t.args.length
   (fun m=>([(1,.i (up t.kind bl)),(3,.ptr 1 0),(22,.s .tm t.args),(23,.i t.args.length),(24,.i m)],⟨5,[(0,.var [.fn (.func 247) [] [.ptr 2 0,.ptr 3 0]]),(1,.var [.fn (.func 129) [] [.ptr 0 0,.ptr 1 0]]),(2,.var [.i at_]),(3,.var [.i (c+cnt at_ ((if t.kind=1 then [(t.index,bl)] else [])++(t.args.take m).flatMap (Tm.vars (up t.kind bl))))]),(4,.var t.view)]⟩))
   ?_ ?_ ?_
  .simp_all only[beq_iff_eq,beq_eq_false_iff_ne,ne_eq];exact(M.W C5 (hf:=(by(repeat'(first|exact trivial|refine And.intro ?_ ?_|refine⟨_,U,_,U,?_⟩|exact Ap.refl _|exact Ap.of_eq (by simp[Ao.AH,up, *,xy,cnt])));done)) (he:=(by(repeat'(first|exact trivial|refine And.intro ?_ ?_|refine⟨_,U,_,U,_,U,?_⟩|exact Ap.refl _|exact Ap.of_eq (by simp[Ao.AH,up, *,xy,cnt])));done)))
  .intro m hm hP;have hs2:=zc Tm.full (fA hm);have hs3:cnt at_ ((if t.kind=1 then [(t.index,bl)] else [])++(t.args.take m).flatMap (Tm.vars (up t.kind bl)))+t.args[m].full<=1+(t.args.map Tm.full).sum:=by
    have h1:=Qj at_ ((if t.kind=1 then [(t.index,bl)] else [])++(t.args.take m).flatMap (Tm.vars (up t.kind bl)));have h2:=Yi (t.args.take m) (Tm.vars (up t.kind bl)) fun x _=>x.Db _;have h3:((t.args.take m).map Tm.size).sum<=((t.args.take m).map Tm.full).sum:=x6 _ (fun x _=>x.An);have h4:=yz Tm.full t.args m hm;have h5:=zw Tm.full t.args (m+1);have h6:(if t.kind=1 then [(t.index,bl)] else []).length<=1:=by split<;>simp
    simp only[ga] at h1;omega
   have hix':∀p∈(t.args[m]).vars (up t.kind bl),0<=p.1/\p.1<9223372036854775808:=fun p hp=>hix p mJ;have hc:=ih t.args[m] (c+cnt at_ ((if t.kind=1 then [(t.index,bl)] else [])++(t.args.take m).flatMap (Tm.vars (up t.kind bl)))) (up t.kind bl) kn kn hup0 kn kn kn hix';(repeat' first|refine M.w0 ?_|refine M.cv (hc) [0,1,2,3] 0 ?_|fail);refine⟨rfl,trivial,?_⟩;exact(M.W C5 (he:=(by(repeat'(first|exact trivial|refine And.intro ?_ ?_|refine⟨_,U,_,U,_,U,?_⟩|exact Ap.refl _|exact Ap.of_eq (by simp[Ao.AH,xy,M6 _ _ _ hm,iF])));done)))
  .intro hP;skip
   (exact M.n2 D9 (h6:=(by(repeat'(first|exact trivial|refine And.intro ?_ ?_|refine⟨_,U,_,U,_,U,?_⟩|exact Ap.refl _|exact Ap.of_eq (by simp[Ao.AH,hv])));done)) (h8:=pJ))
theorem Zz1(t:Tm)(at_:Int)(ht:t.full<549755813888)(hix:∀p∈t.vars 0,0<=p.1/\p.1<9223372036854775808):AC E 81 [.agg t.view,.fn (.func 247) [] [.ptr 0 0,.ptr 1 0]] ⟨2,[(0,.var [.i at_]),(1,.var [.i 0])]⟩ (.AP []) ⟨2,[(0,.var [.i at_]),(1,.var [.i (cnt at_ (t.vars 0))])]⟩:=by
 have hc:=Zxn at_ _ t 0 0 (fB _) kn kn kn kn kn hix;refine M.F Tryz.func81 ?_;(repeat' first|refine M.w0 ?_|refine M.cv (hc) [3,4,0,1] 0 ?_|fail)
 (exact M.n2 Bo (h6:=(by(repeat'(first|exact trivial|refine And.intro ?_ ?_|refine⟨_,U,_,U,_,U,?_⟩|exact Ap.refl _|exact Ap.of_eq (by simp[Ao.AH,cnt])));done)) (h8:=(by simp[zn,V.wk,V.Ar,za,Ty.view,Tm.view,cnt])))
theorem Yku(t:Tm)(at_:Int)(ht:t.full<549755813888)(hix:∀p∈t.vars 0,0<=p.1/\p.1<9223372036854775808):PC E 227 [.agg t.view,.i at_] (.i (cnt at_ (t.vars 0))):=by
 have hc:=Zz1 t at_ ht hix;refine M.F Tryz.func227 ?_;(repeat' first|refine M.w0 ?_|refine M.cb (hc) [1,2] 0 ?_|fail);simp[zn,V.wk,V.Ar]
theorem ZL(t:Tm)(at_:Int)(ht:t.full<549755813888)(hix:∀p∈t.vars 0,0<=p.1/\p.1<1099511627776):PC E 227 [.agg t.view,.i at_] (.i (cnt at_ (t.vars 0))):=
 Yku t at_ ht fun p hp=>by have:=hix p hp;omega
end Go.Ab
namespace Go.Ab
open Go Go.Proofs
set_option maxRecDepth 100000
set_option maxHeartbeats 4000000
set_option linter.all false
theorem Rq(c:Ck)(hc:c.ok)(l:List Ty)(hl:0<l.length)(hl2:l.length<=2):PC E 190 [.agg c.view,.s .ty l] (.agg (c.below l).view):=by
 have hlen:=hc.len;have hnh:=hc.nh;refine M.F Tryz.func190 ?_;refine M.w0 ?_;refine M.rt c.hyps.length
  (fun m=>([(1,.s .ty l),(2,.ptr 0 0),(4,.ptr 1 0),(5,.ptr 3 0),(23,.s .fm c.hyps),(24,.i c.hyps.length),(25,.i m)],⟨5,[(0,.var c.view),(1,.var [.slice .nil (.t .fm []),.slice .nil (.t .ty []),.slice .nil (.t .fm [])]),(2,.row),(3,.var [.s .fm c.lems,.slice (.own 2) (.t .ty (c.tys++l)),.slice (.own 4) (.t .fm ((c.hyps.take m).map fun f=>f.As 0 l.length))]),(4,.row)]⟩))
  (M.W Ke) ?_ ?_
 .intro m hm _;obtain⟨h1,h2⟩:=hc.hyps c.hyps[m] (fA hm);have s:=(Fm.Aa _).1 h1;have hcall:=Gx h2 s.1 kn kn 0 l.length kn kn;refine M.w1 @hcall ?_;exact⟨rfl,trivial,(M.W [some 0,some 1,some 2,some 3,some 6] (he:=(by(repeat'(first|exact trivial|exact Or.inr ⟨_,U,rfl⟩|refine And.intro ?_ ?_|refine⟨_,U,_,U,_,U,?_⟩|exact Ap.refl _|exact Ap.of_eq kO));done)))⟩
 .exact qt
theorem dH:∀{l:List Tm} {m:Nat} (hm:m<l.length),(∀j (hj:j<l.length),j<m->(yv l[j] 1000).2.2=0)->(yv l[m] 1000).2.2≠0->wo l=([],(yv l[m] 1000).2.2)
 |[],m,hm,_,_=>by simp at hm
 |x::l,0,hm,_,h=>by simp only[wo,fM] at h ⊢;rw[if_pos h]
 |x::l,m+1,hm,h0,h=>by
  have h1:=h0 0 ko kn;simp only[fM] at h1;simp only[gi] at h ⊢;have h2:=dH (l:=l) (m:=m) nA (fun j hj hjm=>by have:=h0 (j+1) kY kn;simpa using this) h;simp only[wo];rw[if_neg (by simp[h1]),h2,if_pos h]
theorem ZR:∀{l:List Tm},(∀j (hj:j<l.length),j<l.length->(yv l[j] 1000).2.2=0)->wo l=(l.map fun t=>(yv t 1000).1,0)
 |[],_=>rfl
 |x::l,h0=>by
  have h1:=h0 0 ko ko;simp only[fM] at h1;have h2:=ZR (l:=l) fun j hj _=>by have:=h0 (j+1) kY kY;simpa using this
  simp only[wo];rw[if_neg (by simp[h1]),h2];rfl
theorem eS:∀{l:List Fm} {m:Nat} (hm:m<l.length),(∀j (hj:j<l.length),j<m->(y9 l[j]).2=0)->(y9 l[m]).2≠0->xd l=([],(y9 l[m]).2)
 |[],m,hm,_,_=>by simp at hm
 |x::l,0,hm,_,h=>by simp only[xd,fM] at h ⊢;rw[if_pos h]
 |x::l,m+1,hm,h0,h=>by
  have h1:=h0 0 ko kn;simp only[fM] at h1;simp only[gi] at h ⊢;have h2:=eS (l:=l) (m:=m) nA (fun j hj hjm=>by have:=h0 (j+1) kY kn;simpa using this) h;simp only[xd];rw[if_neg (by simp[h1]),h2,if_pos h]
theorem ZU:∀{l:List Fm},(∀j (hj:j<l.length),j<l.length->(y9 l[j]).2=0)->xd l=(l.map fun t=>(y9 t).1,0)
 |[],_=>rfl
 |x::l,h0=>by
  have h1:=h0 0 ko ko;simp only[fM] at h1;have h2:=ZU (l:=l) fun j hj _=>by have:=h0 (j+1) kY kY;simpa using this
  simp only[xd];rw[if_neg (by simp[h1]),h2];rfl
theorem Yel:∀(n:Nat) (f:Fm),f.full<=n->n<274877906944->PC E 198 [.agg f.view] (.AP [.agg (y9 f).1.view,.i (y9 f).2]):=by
 intro n;induction n with
 |zero=>intro f h;have:=f.Ad;omega
 |succ n ih=>
 intro f hsz hn;have hsz':=f.Ag;have hlen:=ze Fm.full Fm.Ad f.args;have hlen2:=ze Tm.full Tm.Ad f.terms;have he:=PM f;refine M.F Tryz.func198 ?_;refine M.w0 ?_;refine M.rp f.terms.length (fun m=>∀j (hj:j<f.terms.length),j<m->(yv f.terms[j] 1000).2.2=0)
  (fun m=>([(1,.ptr 0 0),(2,.ptr 1 0),(4,.ptr 2 0),(20,.s .tm f.terms),(21,.i f.terms.length),(22,.i m)],⟨4,[(0,.var f.view),(1,.var [.i 0,.i 0,.slice .nil (.t .ty []),.slice .nil (.t .tm []),.slice .nil (.t .fm [])]),(2,.var [.i f.kind,.i f.ty.kind,.s .ty f.ty.args,.slice (.own 3) (.t .tm ((f.terms.take m).map fun t=>(yv t 1000).1)),.slice .nil (.t .fm [])]),(3,.row)]⟩))
  (fun j hj h=>kn) (M.W JU) ?_ ?_
 .intro m hm hP;have hs2:=zc Tm.full (fA hm);have hc:=UK f.terms[m] 1000 kn;by_cases hx:(yv f.terms[m] 1000).2.2=0
  .rw[hx] at hc;refine M.w1 @hc ?_;exact⟨rfl,ym (p:=fun t=>(yv t 1000).2.2=0) hm hP hx,(M.W [some 0,some 1,some 2,some 6] (he:=(by(repeat'(first|exact trivial|exact Or.inr ⟨_,U,rfl⟩|refine And.intro ?_ ?_|refine⟨_,U,_,U,_,U,?_⟩|exact Ap.refl _|exact Ap.of_eq kO));done)))⟩
  .have e1:=dH hm hP hx;rw[e1,if_pos hx] at he;rw[he];(repeat' first|refine M.w1 @hc ?_|refine M.cs ?_ ?_<;>intro h|fail);all_goals first
    |rfl
    |(exfalso;simp at h;exact hx h)
 .intro hP;have e1:=ZR (l:=f.terms) fun j hj _=>hP j hj hj;rw[e1,if_neg ko] at he;simp only[fH];refine M.w0 ?_;refine M.rp f.args.length (fun m=>∀j (hj:j<f.args.length),j<m->(y9 f.args[j]).2=0)
   (fun m=>([(1,.ptr 0 0),(2,.ptr 1 0),(4,.ptr 2 0),(44,.s .fm f.args),(45,.i f.args.length),(46,.i m)],⟨5,[(0,.var f.view),(1,.var [.i 0,.i 0,.slice .nil (.t .ty []),.slice .nil (.t .tm []),.slice .nil (.t .fm [])]),(2,.var [.i f.kind,.i f.ty.kind,.s .ty f.ty.args,.slice (.own 3) (.t .tm (f.terms.map fun t=>(yv t 1000).1)),.slice (.own 4) (.t .fm ((f.args.take m).map fun x=>(y9 x).1))]),(3,.row),(4,.row)]⟩))
   (fun j hj h=>kn) (M.W Ke) ?_ ?_
  .intro m hm hP2;have hs2:=zc Fm.full (fA hm);have hc:=ih f.args[m] kn kn;by_cases hx:(y9 f.args[m]).2=0
   .rw[hx] at hc;refine M.w1 @hc ?_;exact⟨rfl,ym (p:=fun t=>(y9 t).2=0) hm hP2 hx,(M.W [some 0,some 1,some 2,some 3,some 7] (he:=(by(repeat'(first|exact trivial|exact Or.inr ⟨_,U,rfl⟩|refine And.intro ?_ ?_|refine⟨_,U,_,U,_,U,?_⟩|exact Ap.refl _|exact Ap.of_eq kO));done)))⟩
   .have e2:=eS hm hP2 hx;rw[e2,if_pos hx] at he;rw[he];(repeat' first|refine M.w1 @hc ?_|refine M.cs ?_ ?_<;>intro h|fail);all_goals first
     |rfl
     |(exfalso;simp at h;exact hx h)
  .intro hP2;have e2:=ZU (l:=f.args) fun j hj _=>hP2 j hj hj;rw[e2,if_neg ko] at he;simp only[fH];rw[he];refine M.w0 ?_
   rfl
end Go.Ab
