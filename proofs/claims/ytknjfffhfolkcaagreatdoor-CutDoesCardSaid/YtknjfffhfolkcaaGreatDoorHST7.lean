/- A part of this seat's proofs. No conditions. -/
import Derived.Test.YtknjfffhfolkcaaGreatDoorHST2
import Derived.Test.YtknjfffhfolkcaaGreatDoorHST3
namespace Go.Ab
open Go Go.Proofs
set_option maxRecDepth 100000
set_option maxHeartbeats 4000000
set_option linter.all false
theorem Jj:∀(b:Nat) (p:Pf),p.full<=b->b<549755813888->PC E 60 [.agg p.view] (.agg p.view):=by
 intro b;induction b with
 |zero=>intro f h;have:=f.Aa;omega
 |succ b ih=>
 intro p hsz hb;have hsz':=p.Af;have hlen:=zd Pf.full Pf.Aa p.args;have hlen1:=zd Fm.full Fm.Aa p.Ac;have hlen2:=zd Tm.full Tm.Aa p.terms;have hty:=wh _ p.ty (Wj _) (by omega);refine M.F Tryz.func60 ?_;(repeat' first|refine M.gw ?_|refine M.c2 (hty) ?_|fail);refine AW.range p.terms.length (fun m=>True)
  (fun m=>([(1,.ptr 0 0),(2,.ptr 1 0),(3,.ptr 2 0),(19,.s .tm p.terms),(20,.i p.terms.length),(21,.i m)],⟨4,[(0,.var p.view),(1,.var [.i 0,.i 0,.i 0,.slice .nil (.t .ty []),.slice .nil (.t .tm []),.slice .nil (.t .fm []),.slice .nil (.t .pf [])]),(2,.var [.i p.kind,.i p.index,.i p.ty.kind,.s .ty p.ty.args,.slice (.own 3) (.t .tm (p.terms.take m)),.slice .nil (.t .fm []),.slice .nil (.t .pf [])]),(3,.row)]⟩))
  (by omega) (fun m=>rfl) (fun m=>rfl) rfl trivial (M.W [some 0,some 1,some 2,none]) ?_ ?_
 .intro m hm _;have hs2:=za Tm.full (Wi hm);(repeat' first|refine M.gw ?_|refine M.c2 (ut _ _ (Wj _) ?_) ?_|exact M.lt|fail);exact⟨rfl,trivial,(M.W [some 0,some 1,some 2,some 5] (he:=(by(repeat'(first|exact trivial|exact Or.inr ⟨_,U,rfl⟩|refine And.intro ?_ ?_|refine⟨_,U,_,U,_,U,?_⟩|exact Ao.refl _|exact Ao.of_eq (by simp[Aq.Ay,Wv])));done)))⟩
 .intro _;simp only[Wp];(repeat' first|refine M.gw ?_|fail);refine AW.range p.Ac.length (fun m=>True)
   (fun m=>([(1,.ptr 0 0),(2,.ptr 1 0),(3,.ptr 2 0),(34,.s .fm p.Ac),(35,.i p.Ac.length),(36,.i m)],⟨5,[(0,.var p.view),(1,.var [.i 0,.i 0,.i 0,.slice .nil (.t .ty []),.slice .nil (.t .tm []),.slice .nil (.t .fm []),.slice .nil (.t .pf [])]),(2,.var [.i p.kind,.i p.index,.i p.ty.kind,.s .ty p.ty.args,.slice (.own 3) (.t .tm p.terms),.slice (.own 4) (.t .fm (p.Ac.take m)),.slice .nil (.t .pf [])]),(3,.row),(4,.row)]⟩))
   (by omega) (fun m=>rfl) (fun m=>rfl) rfl trivial (M.W [some 0,some 1,some 2,some 3,none]) ?_ ?_
  .intro m hm _;have hs2:=za Fm.full (Wi hm);(repeat' first|refine M.gw ?_|refine M.c2 (ve _ _ (Wj _) ?_) ?_|exact M.lt|fail);exact⟨rfl,trivial,(M.W [some 0,some 1,some 2,some 3,some 6] (he:=(by(repeat'(first|exact trivial|exact Or.inr ⟨_,U,rfl⟩|refine And.intro ?_ ?_|refine⟨_,U,_,U,_,U,?_⟩|exact Ao.refl _|exact Ao.of_eq (by simp[Aq.Ay,Wv])));done)))⟩
  .intro _;simp only[Wp];(repeat' first|refine M.gw ?_|fail);refine AW.range p.args.length (fun m=>True)
    (fun m=>([(1,.ptr 0 0),(2,.ptr 1 0),(3,.ptr 2 0),(49,.s .pf p.args),(50,.i p.args.length),(51,.i m)],⟨6,[(0,.var p.view),(1,.var [.i 0,.i 0,.i 0,.slice .nil (.t .ty []),.slice .nil (.t .tm []),.slice .nil (.t .fm []),.slice .nil (.t .pf [])]),(2,.var [.i p.kind,.i p.index,.i p.ty.kind,.s .ty p.ty.args,.slice (.own 3) (.t .tm p.terms),.slice (.own 4) (.t .fm p.Ac),.slice (.own 5) (.t .pf (p.args.take m))]),(3,.row),(4,.row),(5,.row)]⟩))
    (by omega) (fun m=>rfl) (fun m=>rfl) rfl trivial (M.W [some 0,some 1,some 2,some 3,some 4,none]) ?_ ?_
   .intro m hm _;have hs2:=za Pf.full (Wi hm);(repeat' first|refine M.gw ?_|refine M.c2 (ih _ ?_ ?_) ?_|exact M.le|exact M.lt|fail);exact⟨rfl,trivial,(M.W [some 0,some 1,some 2,some 3,some 4,some 7] (he:=(by(repeat'(first|exact trivial|exact Or.inr ⟨_,U,rfl⟩|refine And.intro ?_ ?_|refine⟨_,U,_,U,_,U,?_⟩|exact Ao.refl _|exact Ao.of_eq (by simp[Aq.Ay,Wv])));done)))⟩
   .intro _;simp only[Wp];(repeat' first|refine M.gw ?_|fail)
    rfl
theorem w7(k:Int)(l:List Pf)(hl:l.length<1000000)(h:∀p∈l,p.full<500000000000):PC E 22 [.i k,.s .pf l] (.agg (Pf.mk k 0 (.mk 0 []) [] [] l).view):=by
 refine M.F Tryz.func22 ?_;(repeat' first|refine M.gw ?_|fail);refine AW.range l.length (fun m=>True)
  (fun m=>([(4,.ptr 0 0),(5,.ptr 1 0),(10,.s .pf l),(11,.i l.length),(12,.i m)],⟨3,[(0,.var [.i 0,.i 0,.i 0,.slice .nil (.t .ty []),.slice .nil (.t .tm []),.slice .nil (.t .fm []),.slice .nil (.t .pf [])]),(1,.var [.i k,.i 0,.i 0,.slice .nil (.t .ty []),.slice .nil (.t .tm []),.slice .nil (.t .fm []),.slice (.own 2) (.t .pf (l.take m))]),(2,.row)]⟩))
  (by omega) (fun m=>rfl) (fun m=>rfl) rfl trivial (M.W [some 0,some 1,none]) ?_ ?_
 .intro m hm _;have hc:=Jj _ l[m] (Wj _) (by have:=h _ (Wi hm);omega);(repeat' first|refine M.gw ?_|refine M.c2 (hc) ?_|fail);exact⟨rfl,trivial,(M.W [some 0,some 1,some 4] (he:=(by(repeat'(first|exact trivial|exact Or.inr ⟨_,U,rfl⟩|refine And.intro ?_ ?_|refine⟨_,U,_,U,_,U,?_⟩|exact Ao.refl _|exact Ao.of_eq (by simp[Aq.Ay,Wv])));done)))⟩
 .intro _;simp only[Wp];(repeat' first|refine M.gw ?_|fail)
  rfl
theorem Me(k:Int)(t:Tm)(p:Pf)(ht:t.full<500000000000)(hp:p.full<500000000000):PC E 34 [.i k,.agg t.view,.agg p.view] (.agg (Pf.mk k 0 (.mk 0 []) [t] [] [p]).view):=by
 have h1:=w7 k [p] (by simp) (by simp;omega);have h2:=ut _ t (Wj _) (by omega);refine M.F Tryz.func34 ?_;(repeat' first|refine M.gw ?_|refine M.c2 (h1) ?_|refine M.c2 (h2) ?_|fail)
 rfl
theorem Oz(f:Fm)(p:Pf)(hf:f.full<500000000000)(hp:p.full<500000000000):PC E 28 [.agg f.view,.agg p.view] (.agg (Pf.mk 6 0 (.mk 0 []) [] [f] [p]).view):=by
 have h1:=w7 6 [p] (by simp) (by simp;omega);have h2:=ve _ f (Wj _) (by omega);refine M.F Tryz.func28 ?_;(repeat' first|refine M.gw ?_|refine M.c2 (h1) ?_|refine M.c2 (h2) ?_|fail)
 rfl
theorem Kb(k:Int)(s:Ty)(p:Pf)(hs:s.size<500000000000)(hp:p.full<500000000000):PC E 32 [.i k,.agg s.view,.agg p.view] (.agg (Pf.mk k 0 s [] [] [p]).view):=by
 have h1:=w7 k [p] (by simp) (by simp;omega);have h2:=wh _ s (Wj _) (by omega);refine M.F Tryz.func32 ?_;(repeat' first|refine M.gw ?_|refine M.c2 (h1) ?_|refine M.c2 (h2) ?_|fail)
 rfl
theorem Iy(k:Int)(f:Fm)(t:Tm)(p:Pf)(hf:f.full<500000000000)(ht:t.full<500000000000)(hp:p.full<500000000000):PC E 40 [.i k,.agg f.view,.agg t.view,.agg p.view] (.agg (Pf.mk k 0 (.mk 0 []) [t] [f] [p]).view):=by
 have h1:=Me k t p ht hp;have h2:=ve _ f (Wj _) (by omega);refine M.F Tryz.func40 ?_;(repeat' first|refine M.gw ?_|refine M.c2 (h1) ?_|refine M.c2 (h2) ?_|fail)
 rfl
theorem IG(k:Int)(f:Fm)(t:Tm)(p q:Pf)(hf:f.full<500000000000)(ht:t.full<500000000000)(hp:p.full<500000000000)(hq:q.full<500000000000):PC E 43 [.i k,.agg f.view,.agg t.view,.agg p.view,.agg q.view] (.agg (Pf.mk k 0 (.mk 0 []) [t] [f] [p,q]).view):=by
 have h1:=w7 k [p,q] (by simp) (by intro x hx;simp only[WE,WS,or_false] at hx;rcases hx with rfl|rfl<;>omega);have h2:=ve _ f (Wj _) (by omega);have h3:=ut _ t (Wj _) (by omega);refine M.F Tryz.func43 ?_;(repeat' first|refine M.gw ?_|refine M.c2 (h1) ?_|refine M.c2 (h2) ?_|refine M.c2 (h3) ?_|fail)
 rfl
theorem xt(t:Tm)(ht:t.full<500000000000):PC E 20 [.agg t.view] (.agg (Pf.mk 18 0 (.mk 0 []) [t] [] []).view):=by
 have h2:=ut _ t (Wj _) (by omega);refine M.F Tryz.func20 ?_;(repeat' first|refine M.gw ?_|refine M.c2 (h2) ?_|fail)
 rfl
theorem SZ(f:Fm)(p q:Pf)(hf:f.full<500000000000)(hp:p.full<500000000000)(hq:q.full<500000000000):PC E 47 [.agg f.view,.agg p.view,.agg q.view] (.agg (Pf.mk 19 0 (.mk 0 []) [] [f] [p,q]).view):=by
 have h1:=w7 19 [p,q] (by simp) (by intro x hx;simp only[WE,WS,or_false] at hx;rcases hx with rfl|rfl<;>omega);have h2:=ve _ f (Wj _) (by omega);refine M.F Tryz.func47 ?_;(repeat' first|refine M.gw ?_|refine M.c2 (h1) ?_|refine M.c2 (h2) ?_|fail)
 rfl
theorem Q3(tys:List Ty)(hyps:List Fm)(f:Fm)(hl:hyps.length<=1000):PC E 29 [.agg [.s .ty tys,.s .fm hyps],.agg f.view] (.agg [.s .ty tys,.s .fm (hyps++[f])]):=by
 refine M.F Tryz.func29 ?_;(repeat' first|refine M.gw ?_|fail);all_goals first
  |rfl
  |simp[zk,V.wk,V.Ap,zc,Ty.view,Tm.view]
  |trace_state
theorem JV(tys:List Ty)(hyps:List Fm)(l:List Ty)(hh:∀f∈hyps,f.err=0/\f.Bg tys)(hg:tys.length<=20)(hl:l.length<=2)(hn:hyps.length<=20):
 PC E 33 [.agg [.s .ty tys,.s .fm hyps],.s .ty l] (.agg [.s .ty (tys++l),.s .fm (hyps.map fun f=>f.A9 0 l.length)]):=by
 have h1:=uq tys l (by omega);refine M.F Tryz.func33 ?_;(repeat' first|refine M.gw ?_|refine M.c2 (h1) ?_|fail);refine AW.range hyps.length (fun m=>True)
  (fun m=>([(1,.s .ty l),(4,.ptr 1 0),(5,.ptr 2 0),(14,.s .fm hyps),(15,.i hyps.length),(16,.i m)],⟨4,[(0,.var [.s .ty tys,.s .fm hyps]),(1,.var [.slice .nil (.t .ty []),.slice .nil (.t .fm [])]),(2,.var [.s .ty (tys++l),.slice (.own 3) (.t .fm ((hyps.take m).map fun f=>f.A9 0 l.length))]),(3,.row)]⟩))
  (by omega) (fun m=>rfl) (fun m=>rfl) rfl trivial (M.W [some 0,some 1,some 2,none]) ?_ ?_
 .intro m hm _;have hf:=hh hyps[m] (Wi hm);have hc:=E1 hf.2 ((Fm.Ad _).1 hf.1).1 (by have:=((Fm.Ad _).1 hf.1).2;omega) (by omega) 0 l.length (by omega) (by omega);(repeat' first|refine M.gw ?_|refine M.c2 (hc) ?_|fail);exact⟨rfl,trivial,(M.W [some 0,some 1,some 2,some 5] (he:=(by(repeat'(first|exact trivial|exact Or.inr ⟨_,U,rfl⟩|refine And.intro ?_ ?_|refine⟨_,U,_,U,_,U,?_⟩|exact Ao.refl _|exact Ao.of_eq (by simp[Aq.Ay,zy _ _ _ hm])));done)))⟩
 .intro _;simp only[Wp];(repeat' first|refine M.gw ?_|fail);all_goals first
   |rfl
   |simp[zk,V.wk,V.Ap,zc,Ty.view,Tm.view]
   |trace_state
theorem PX{g:List Ty}{t:Tm}(he:t.err=0)(hi:t.inf g=(Ag,0))(hg:g.length<=20):PC E 38 [.agg t.view] (.agg (t.re (zx 0 1) 0).view):=by
 have hf:=z6 he;have hs:=(Tm.Ad t).1 he;have h1:=GQ t t (by omega) (by omega);have h2:=E1 (f:=Bf t t) (g:=g) (CI.2 ⟨hi,hi⟩) (IU hs.1 hs.1) (by have:=H6 t t;omega) (by omega) 0 1 (by omega) (by omega);rw[Yfj] at h2;rw[show(0:Int)+0=0 from rfl] at h2;generalize t.re (zx 0 1) 0=u at*;refine M.F Tryz.func38 ?_;(repeat' first|refine M.gw ?_|refine M.c2 (h1) ?_|refine M.c2 (h2) ?_|fail);all_goals first
  |rfl
  |simp[zk,V.wk,V.Ap,zc,Ty.view,Tm.view]
  |trace_state
theorem Zz0(k:Int)(f:Fm)(t:Tm)(p:Pf)(hf:f.full<500000000000)(ht:t.full<500000000000)(hp:p.full<500000000000):
 AC E 40 [.i k,.agg f.view,.agg t.view,.agg p.view] ⟨0,[]⟩ (.agg [.i k,.i 0,.i 0,.s .ty [],.s .tm [t],.arr 0 1 5,.s .pf [p]]) ⟨1,[(0,.var f.view)]⟩:=by
 have h1:=Me k t p ht hp;have h2:=ve _ f (Wj _) (by omega);refine M.F Tryz.func40 ?_;(repeat' first|refine M.go ?_|refine M.c2 (h1) ?_|refine M.z1 2 ?_|refine M.gk ?_|fail);refine K.sq (AW.AV ?_);refine L.Dr rfl rfl rfl rfl rfl rfl ?_;refine L.c2 h2 rfl rfl rfl rfl ?_;refine L.O3 0 rfl rfl rfl rfl rfl rfl rfl ?_;(repeat' first|refine M.gw ?_|fail);refine K.rt [some 5] rfl rfl rfl rfl rfl ?_ rfl ?_
 .exact ⟨⟨_,rfl,_,rfl,_,rfl,Bp.refl _⟩,trivial⟩
 .first
   |exact Ao.refl _
   |(refine Ao.of_eq ?_;simp[zk,Ty.view,Tm.view];rfl)
end Go.Ab
