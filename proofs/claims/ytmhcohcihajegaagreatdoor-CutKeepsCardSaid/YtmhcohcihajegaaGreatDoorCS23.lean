/- A part of this seat's proofs. No conditions. -/
import Derived.Test.YtmhcohcihajegaaGreatDoorCS18
import Derived.Test.YtmhcohcihajegaaGreatDoorCS19
namespace Go.Ab
open Go Go.Proofs
set_option maxRecDepth 100000
set_option maxHeartbeats 4000000
set_option linter.all false
theorem Yq5(lems hyps:List Fm)(tys:List Ty)(hl:∀f∈lems,f.full<274877906944)(hh:∀f∈hyps,f.full<274877906944)(ht:(tys.map Ty.size).sum<549755813888)(hll:lems.length<549755813888)(hhl:hyps.length<549755813888):
 PC E 39 [.s .fm lems,.agg [.s .ty tys,.s .fm hyps]] (.i (IA lems tys hyps)):=by
 have h1:=T0 tys kn;unfold IA;by_cases c1:lems.length>32
 .rw[if_pos c1];refine M.F Tryz.func39 ?_;(repeat' first|refine M.o0 ?_|refine M.z1 3 ?_|refine M.cs ?_ ?_<;>intro h|refine M.gk ?_|fail);all_goals first
   |rfl
   |(exfalso;simp at h;omega)
   |trace_state
 rw[if_neg c1];refine M.F Tryz.func39 ?_;(repeat' first|refine M.w0 ?_|refine M.cs ?_ ?_<;>intro h|fail)
 .exact qW
 refine M.rp lems.length (fun m=>∀j (hj:j<lems.length),j<m->y8 [] lems[j]=0)
  (fun m=>([(3,.ptr 0 0),(15,.s .fm lems),(16,.i lems.length),(17,.i m)],⟨1,[(0,.var [.s .ty tys,.s .fm hyps])]⟩))
  (fun j hj h=>kn) (M.W AJ) ?_ ?_
 .intro m hm hP;have hc:=SD [] lems[m] (by have:=hl _ (fA hm);omega) ko;by_cases hx:y8 [] lems[m]=0
  .rw[hx] at hc;refine M.w1 @hc ?_;exact⟨rfl,ym (p:=fun f=>y8 [] f=0) hm hP hx,(M.W AJ)⟩
  .have e:=MX hm hP hx;rw[e,if_pos hx];(repeat' first|refine M.w1 @hc ?_|refine M.cs ?_ ?_<;>intro h|fail);all_goals first
    |rfl
    |(exfalso;rename_i h5;simp at h5;exact hx h5)
    |(exfalso;simp at h;exact hx h)
    |trace_state
 .intro hP;rw[u4 fun j hj _=>hP j hj hj,if_neg ko];by_cases c2:ww tys=0;case neg=>
   rw[if_pos c2];(repeat' first|refine M.o1 @h1 ?_|refine M.z1 13 ?_|refine M.cs ?_ ?_<;>intro h|refine M.gk ?_|fail);all_goals first
    |rfl
    |(exfalso;simp at h;exact c2 h)
    |trace_state
  rw[if_neg (by simp[c2])];rw[c2] at h1;by_cases c3:hyps.length>16
  .rw[if_pos c3];(repeat' first|refine M.o1 @h1 ?_|refine M.z1 15 ?_|refine M.cs ?_ ?_<;>intro h|refine M.gk ?_|fail);all_goals first
    |rfl
    |(exfalso;simp at h;omega)
    |trace_state
  rw[if_neg c3];(repeat' first|refine M.w1 @h1 ?_|refine M.cs ?_ ?_<;>intro h|fail)
  .exact qW
  refine M.rp hyps.length (fun m=>∀j (hj:j<hyps.length),j<m->y8 tys hyps[j]=0)
   (fun m=>([(3,.ptr 0 0),(38,.s .fm hyps),(39,.i hyps.length),(40,.i m)],⟨1,[(0,.var [.s .ty tys,.s .fm hyps])]⟩))
   (fun j hj h=>kn) (M.W AJ) ?_ ?_
  .intro m hm hP2;have hc:=SD tys hyps[m] (by have:=hh _ (fA hm);omega) kn;by_cases hx:y8 tys hyps[m]=0
   .rw[hx] at hc;refine M.w1 @hc ?_;exact⟨rfl,ym (p:=fun f=>y8 tys f=0) hm hP2 hx,(M.W AJ)⟩
   .have e:=MX hm hP2 hx;rw[e];(repeat' first|refine M.w1 @hc ?_|refine M.cs ?_ ?_<;>intro h|fail);all_goals first
     |rfl
     |(exfalso;rename_i h5;simp at h5;exact hx h5)
     |(exfalso;simp at h;exact hx h)
     |trace_state
  .intro hP2;rw[u4 fun j hj _=>hP2 j hj hj];refine M.w0 ?_
   rfl
theorem SW(lems hyps:List Fm)(tys:List Ty)(p:Pf)(hl:∀f∈lems,f.full<274877906944)(hh:∀f∈hyps,f.full<274877906944)(ht:(tys.map Ty.size).sum<549755813888)(hll:lems.length<549755813888)(hhl:hyps.length<549755813888)(hp:p.full<274877906944):
 PC E 14 [.s .fm lems,.agg [.s .ty tys,.s .fm hyps],.agg p.view] (En (yb lems tys hyps p).1 (yb lems tys hyps p).2.1 (yb lems tys hyps p).2.2):=by
 have h1:=Yq5 lems hyps tys hl hh ht hll hhl;have h2:=aI p kn;unfold yb;by_cases c1:IA lems tys hyps=0;case neg=>
  rw[if_pos c1];refine M.F Tryz.func14 ?_;(repeat' first|refine M.o1 @h1 ?_|refine M.z1 4 ?_|refine M.cs ?_ ?_<;>intro h|refine M.gk ?_|fail);all_goals first
   |rfl
   |(exfalso;simp at h;exact c1 h)
   |trace_state
 rw[if_neg (by simp[c1])];rw[c1] at h1;by_cases c2:p.err=0;case neg=>
  rw[if_pos c2];refine M.F Tryz.func14 ?_;(repeat' first|refine M.o2 @h1 @h2 ?_|refine M.z1 7 ?_|refine M.cs ?_ ?_<;>intro h|refine M.gk ?_|fail);all_goals first
   |rfl
   |(exfalso;simp at h;exact c2 h)
   |trace_state
 rw[if_neg (by simp[c2])];rw[c2] at h2;obtain⟨ps,pm,_⟩:=(Pf.Aa p).1 c2;have hok:=Ym9 c1;have h3:PC E 41 [.agg [.s .fm lems,.s .ty tys,.s .fm hyps],.agg p.view] (En (yr p ⟨lems,tys,hyps⟩).1 (yr p ⟨lems,tys,hyps⟩).2.1 (yr p ⟨lems,tys,hyps⟩).2.2):=Ygz p ps pm ⟨lems,tys,hyps⟩ hok;have hro:=Kb p ps ⟨lems,tys,hyps⟩ hok;generalize yr p ⟨lems,tys,hyps⟩=r at*;obtain⟨f,u,e⟩:=r;have hb:=Ij hok hro;have h4:=Jd _ f (fB _) kn;by_cases he:e=0
 .subst he;refine M.F Tryz.func14 ?_;refine M.w4 @h1 @h2 @h3 @h4 ?_
  rfl
 .have e1:=hro.2 he;simp only[yf,kB] at e1;obtain⟨rfl,rfl,_⟩:=e1;refine M.F Tryz.func14 ?_;(repeat' first|refine M.o3 @h1 @h2 @h3 ?_|refine M.z1 10 ?_|refine M.cs ?_ ?_<;>intro h|refine M.gk ?_|fail);all_goals first
   |rfl
   |(exfalso;simp at h;exact he h)
   |trace_state
theorem Zw(Xs:List Bool)(t:Tm)(bl:Int)(ht:t.full<1099511627776):AC E 121 [.agg t.view,.i bl,.ptr 0 0] ⟨1,[(0,.var [.bool (Xs.all id)])]⟩ (.AP []) ⟨1,[(0,.var [.bool ((Xs++[t.near]).all id)])]⟩:=by
 have hc:=QY t ht;have e:(Xs++[t.near]).all id=(Xs.all id&&t.near):=by simp[gC]
 rw[e];generalize Xs.all id=b;generalize t.near=c at*;cases b;all_goals
  refine M.F Tryz.func121 ?_;refine M.w1 @hc ?_
  (exact M.n2 AJ (h8:=nP))
theorem eN(Xs:List Bool)(t:Fm)(bl:Int)(ht:t.full<274877906944):AC E 123 [.agg t.view,.i bl,.ptr 0 0] ⟨1,[(0,.var [.bool (Xs.all id)])]⟩ (.AP []) ⟨1,[(0,.var [.bool ((Xs++[t.near]).all id)])]⟩:=by
 have hc:=Ygl t ht;have e:(Xs++[t.near]).all id=(Xs.all id&&t.near):=by simp[gC]
 rw[e];generalize Xs.all id=b;generalize t.near=c at*;cases b;all_goals
  refine M.F Tryz.func123 ?_;refine M.w1 @hc ?_
  (exact M.n2 AJ (h8:=nP))
theorem Yos:∀(n:Nat) (p:Pf) (v y:Int) (Xs:List Bool),p.full<=n->n<10000000000->(0<=v/\v+2*n<=50000000000)->(0<=y/\y+2*n<=50000000000)->p.nd->
 AC E 105 [.agg p.view,.agg [.i v,.i y],.agg [.fn (.func 121) [] [.ptr 0 0],.fn (.func 123) [] [.ptr 0 0],.nilf]] ⟨1,[(0,.var [.bool (Xs.all id)])]⟩ (.AP []) ⟨1,[(0,.var [.bool ((Xs++p.Ee (fun(_:Int) (t:Tm)=>t.near) (fun(_:Int) (f:Fm)=>f.near) v).all id)])]⟩:=by
 intro n;induction n with
 |zero=>intro p v y Xs hz;have:=p.Ad;omega
 |succ n ih=>
 intro p v y Xs hz hn hv hh hs;have hre:=p.CM (fun(_:Int) (t:Tm)=>t.near) (fun(_:Int) (f:Fm)=>f.near) v;have hsz':=p.Ag;have hlen:=ze Pf.full Pf.Ad p.args;have hlen1:=ze Fm.full Fm.Ad p.Ae;have hlen2:=ze Tm.full Tm.Ad p.terms;have hru:=Js p.kind;obtain⟨⟨nd,n1,n4⟩,hpf⟩:=(Pf.BU p).1 hs;have hal:p.args.length<=2:=by
  exact pW
 have hpl:=fun(m:Nat) (hm:m<=1000000)=>wd p.kind v y nd n1 m hm kn kn;have e2:Ds p.kind=[.bool nd.index,.bool nd.typ,.i nd.terms,.i nd.Ae,.i nd.args,.i (AN p.kind),.i (Aw p.kind),.i (AA p.kind)]:=lp
 have b1:0<=Aw p.kind/\Aw p.kind<=2:=kT
 have b2:0<=AA p.kind/\AA p.kind<=1:=kX
 have b3:0<=AN p.kind/\AN p.kind<=1:=kW
 rw[n1] at hru;simp only[gI] at hru;rw[e2] at hru;simp only[e2] at hpl;clear n1 e2;obtain⟨x3,x4,x5,ix,x2⟩:=nd;simp only at n4 hru hpl;cases ix
 .refine M.F Tryz.func105 ?_;refine M.w1 @hru ?_;refine M.rt p.terms.length
   (fun m=>([(3,.ptr 1 0),(4,.ptr 2 0),(5,.ptr 3 0),(6,.ptr 4 0),(33,.s .tm p.terms),(34,.i p.terms.length),(35,.i m)],⟨5,[(0,.var [.bool ((Xs++(p.terms.take m).map ((fun(_:Int) (t:Tm)=>t.near) v)).all id)]),(1,.var p.view),(2,.var [.i v,.i y]),(3,.var [.fn (.func 121) [] [.ptr 0 0],.fn (.func 123) [] [.ptr 0 0],.nilf]),(4,.var [.bool false,.bool x2,.i x3,.i x4,.i x5,.i (AN p.kind),.i (Aw p.kind),.i (AA p.kind)])]⟩))
   (M.W C5 (he:=(by(repeat'(first|exact trivial|refine And.intro ?_ ?_|refine⟨_,U,_,U,_,U,?_⟩|exact Ap.refl _|exact Ap.of_eq lH));done))) ?_ ?_
  .exact qi
  .intro _;simp only[fH];refine M.w0 ?_;refine M.rt p.Ae.length
    (fun m=>([(3,.ptr 1 0),(4,.ptr 2 0),(5,.ptr 3 0),(6,.ptr 4 0),(50,.s .fm p.Ae),(51,.i p.Ae.length),(52,.i m)],⟨5,[(0,.var [.bool ((Xs++p.terms.map ((fun(_:Int) (t:Tm)=>t.near) v)++(p.Ae.take m).map ((fun(_:Int) (f:Fm)=>f.near) (v+AN p.kind))).all id)]),(1,.var p.view),(2,.var [.i v,.i y]),(3,.var [.fn (.func 121) [] [.ptr 0 0],.fn (.func 123) [] [.ptr 0 0],.nilf]),(4,.var [.bool false,.bool x2,.i x3,.i x4,.i x5,.i (AN p.kind),.i (Aw p.kind),.i (AA p.kind)])]⟩))
    (M.W C5 (he:=(by(repeat'(first|exact trivial|refine And.intro ?_ ?_|refine⟨_,U,_,U,_,U,?_⟩|exact Ap.refl _|exact Ap.of_eq lH));done))) ?_ ?_
   .exact p9
   .intro _;simp only[fH];refine M.w0 ?_;refine M.rt p.args.length
     (fun m=>([(3,.ptr 1 0),(4,.ptr 2 0),(5,.ptr 3 0),(6,.ptr 4 0),(70,.s .pf p.args),(71,.i p.args.length),(72,.i m)],⟨5,[(0,.var [.bool ((Xs++p.terms.map ((fun(_:Int) (t:Tm)=>t.near) v)++p.Ae.map ((fun(_:Int) (f:Fm)=>f.near) (v+AN p.kind))++((Pf.Bp (fun(_:Int) (t:Tm)=>t.near) (fun(_:Int) (f:Fm)=>f.near) v (Aw p.kind) p.args).take m).flatten).all id)]),(1,.var p.view),(2,.var [.i v,.i y]),(3,.var [.fn (.func 121) [] [.ptr 0 0],.fn (.func 123) [] [.ptr 0 0],.nilf]),(4,.var [.bool false,.bool x2,.i x3,.i x4,.i x5,.i (AN p.kind),.i (Aw p.kind),.i (AA p.kind)])]⟩))
     (M.W C5 (he:=(by(repeat'(first|exact trivial|refine And.intro ?_ ?_|refine⟨_,U,_,U,_,U,?_⟩|exact Ap.refl _|exact Ap.of_eq lg));done))) ?_ ?_
    .intro m hm _;have hs2:=zc Pf.full (fA hm);have hb:=hpl m kn;have hc:=ih p.args[m] (if m+1=p.args.length then v+Aw p.kind else v) (if m+1=p.args.length then y+AA p.kind else y) (Xs++p.terms.map ((fun(_:Int) (t:Tm)=>t.near) v)++p.Ae.map ((fun(_:Int) (f:Fm)=>f.near) (v+AN p.kind))++((Pf.Bp (fun(_:Int) (t:Tm)=>t.near) (fun(_:Int) (f:Fm)=>f.near) v (Aw p.kind) p.args).take m).flatten) kn kn kJ kJ (hpf _ (fA hm));have e3:(Xs++p.terms.map ((fun(_:Int) (t:Tm)=>t.near) v)++p.Ae.map ((fun(_:Int) (f:Fm)=>f.near) (v+AN p.kind))++((Pf.Bp (fun(_:Int) (t:Tm)=>t.near) (fun(_:Int) (f:Fm)=>f.near) v (Aw p.kind) p.args).take m).flatten)++p.args[m].Ee (fun(_:Int) (t:Tm)=>t.near) (fun(_:Int) (f:Fm)=>f.near) (if m+1=p.args.length then v+Aw p.kind else v)=(Xs++p.terms.map ((fun(_:Int) (t:Tm)=>t.near) v)++p.Ae.map ((fun(_:Int) (f:Fm)=>f.near) (v+AN p.kind))++((Pf.Bp (fun(_:Int) (t:Tm)=>t.near) (fun(_:Int) (f:Fm)=>f.near) v (Aw p.kind) p.args).take (m+1)).flatten):=oF
     rw[e3] at hc;have ev:(if(m:Int)=(x5:Int)-1 then y+AA p.kind else y)=(if m+1=p.args.length then y+AA p.kind else y):=by
      exact pS
     have ev2:(if(m:Int)=(x5:Int)-1 then v+Aw p.kind else v)=(if m+1=p.args.length then v+Aw p.kind else v):=by
      exact pS
     rw[ev,ev2] at hb;(repeat' first|refine M.w1 @hb ?_|refine M.cv (hc) [0] 0 ?_|fail);exact⟨rfl,trivial,(M.W C5)⟩
    .exact qI
 .refine M.F Tryz.func105 ?_;refine M.w1 @hru ?_;refine M.rt p.terms.length
   (fun m=>([(3,.ptr 1 0),(4,.ptr 2 0),(5,.ptr 3 0),(6,.ptr 4 0),(33,.s .tm p.terms),(34,.i p.terms.length),(35,.i m)],⟨5,[(0,.var [.bool ((Xs++(p.terms.take m).map ((fun(_:Int) (t:Tm)=>t.near) v)).all id)]),(1,.var p.view),(2,.var [.i v,.i y]),(3,.var [.fn (.func 121) [] [.ptr 0 0],.fn (.func 123) [] [.ptr 0 0],.nilf]),(4,.var [.bool true,.bool x2,.i x3,.i x4,.i x5,.i (AN p.kind),.i (Aw p.kind),.i (AA p.kind)])]⟩))
   (M.W C5 (he:=(by(repeat'(first|exact trivial|refine And.intro ?_ ?_|refine⟨_,U,_,U,_,U,?_⟩|exact Ap.refl _|exact Ap.of_eq lH));done))) ?_ ?_
  .exact qi
  .intro _;simp only[fH];refine M.w0 ?_;refine M.rt p.Ae.length
    (fun m=>([(3,.ptr 1 0),(4,.ptr 2 0),(5,.ptr 3 0),(6,.ptr 4 0),(50,.s .fm p.Ae),(51,.i p.Ae.length),(52,.i m)],⟨5,[(0,.var [.bool ((Xs++p.terms.map ((fun(_:Int) (t:Tm)=>t.near) v)++(p.Ae.take m).map ((fun(_:Int) (f:Fm)=>f.near) (v+AN p.kind))).all id)]),(1,.var p.view),(2,.var [.i v,.i y]),(3,.var [.fn (.func 121) [] [.ptr 0 0],.fn (.func 123) [] [.ptr 0 0],.nilf]),(4,.var [.bool true,.bool x2,.i x3,.i x4,.i x5,.i (AN p.kind),.i (Aw p.kind),.i (AA p.kind)])]⟩))
    (M.W C5 (he:=(by(repeat'(first|exact trivial|refine And.intro ?_ ?_|refine⟨_,U,_,U,_,U,?_⟩|exact Ap.refl _|exact Ap.of_eq lH));done))) ?_ ?_
   .exact p9
   .intro _;simp only[fH];refine M.w0 ?_;refine M.rt p.args.length
     (fun m=>([(3,.ptr 1 0),(4,.ptr 2 0),(5,.ptr 3 0),(6,.ptr 4 0),(70,.s .pf p.args),(71,.i p.args.length),(72,.i m)],⟨5,[(0,.var [.bool ((Xs++p.terms.map ((fun(_:Int) (t:Tm)=>t.near) v)++p.Ae.map ((fun(_:Int) (f:Fm)=>f.near) (v+AN p.kind))++((Pf.Bp (fun(_:Int) (t:Tm)=>t.near) (fun(_:Int) (f:Fm)=>f.near) v (Aw p.kind) p.args).take m).flatten).all id)]),(1,.var p.view),(2,.var [.i v,.i y]),(3,.var [.fn (.func 121) [] [.ptr 0 0],.fn (.func 123) [] [.ptr 0 0],.nilf]),(4,.var [.bool true,.bool x2,.i x3,.i x4,.i x5,.i (AN p.kind),.i (Aw p.kind),.i (AA p.kind)])]⟩))
     (M.W C5 (he:=(by(repeat'(first|exact trivial|refine And.intro ?_ ?_|refine⟨_,U,_,U,_,U,?_⟩|exact Ap.refl _|exact Ap.of_eq lg));done))) ?_ ?_
    .intro m hm _;have hs2:=zc Pf.full (fA hm);have hb:=hpl m kn;have hc:=ih p.args[m] (if m+1=p.args.length then v+Aw p.kind else v) (if m+1=p.args.length then y+AA p.kind else y) (Xs++p.terms.map ((fun(_:Int) (t:Tm)=>t.near) v)++p.Ae.map ((fun(_:Int) (f:Fm)=>f.near) (v+AN p.kind))++((Pf.Bp (fun(_:Int) (t:Tm)=>t.near) (fun(_:Int) (f:Fm)=>f.near) v (Aw p.kind) p.args).take m).flatten) kn kn kJ kJ (hpf _ (fA hm));have e3:(Xs++p.terms.map ((fun(_:Int) (t:Tm)=>t.near) v)++p.Ae.map ((fun(_:Int) (f:Fm)=>f.near) (v+AN p.kind))++((Pf.Bp (fun(_:Int) (t:Tm)=>t.near) (fun(_:Int) (f:Fm)=>f.near) v (Aw p.kind) p.args).take m).flatten)++p.args[m].Ee (fun(_:Int) (t:Tm)=>t.near) (fun(_:Int) (f:Fm)=>f.near) (if m+1=p.args.length then v+Aw p.kind else v)=(Xs++p.terms.map ((fun(_:Int) (t:Tm)=>t.near) v)++p.Ae.map ((fun(_:Int) (f:Fm)=>f.near) (v+AN p.kind))++((Pf.Bp (fun(_:Int) (t:Tm)=>t.near) (fun(_:Int) (f:Fm)=>f.near) v (Aw p.kind) p.args).take (m+1)).flatten):=oF
     rw[e3] at hc;have ev:(if(m:Int)=(x5:Int)-1 then y+AA p.kind else y)=(if m+1=p.args.length then y+AA p.kind else y):=by
      exact pS
     have ev2:(if(m:Int)=(x5:Int)-1 then v+Aw p.kind else v)=(if m+1=p.args.length then v+Aw p.kind else v):=by
      exact pS
     rw[ev,ev2] at hb;(repeat' first|refine M.w1 @hb ?_|refine M.cv (hc) [0] 0 ?_|fail);exact⟨rfl,trivial,(M.W C5)⟩
    .exact qI
theorem SV(p:Pf)(hp:p.full<5000000000)(hs:p.nd):PC E 75 [.agg p.view] (.bool p.Br):=by
 have hc:=Yos _ p 0 0 [] (fB _) kn kn kn hs;rw[gz] at hc;unfold Pf.Br;generalize (p.Ee (fun(_:Int) (t:Tm)=>t.near) (fun(_:Int) (f:Fm)=>f.near) 0).all id=b at*;refine M.F Tryz.func75 ?_;(repeat' first|refine M.w0 ?_|refine M.cv (hc) [1] 0 ?_|fail);simp[zn,V.wk,V.Ar,za,Ty.view,Tm.view]
end Go.Ab
