/- A part of this seat's proofs. No conditions. -/
import Derived.Test.YtmhcohcihajegaaGreatDoorCS26
import Derived.Test.YtmhcohcihajegaaGreatDoorCS29
namespace Go.Ab
open Go Go.Proofs
set_option maxRecDepth 100000
set_option maxHeartbeats 4000000
set_option linter.all false
theorem WC(Xs:List Bool)(p:Pf)(v y:Int)(h1:p.kind=1\/p.kind=2):AC E 106 [.agg p.view,.agg [.i v,.i y],.ptr 0 0] ⟨1,[(0,.var [.bool (Xs.all id)])]⟩ (.AP []) ⟨1,[(0,.var [.bool ((Xs++Eb p.kind p.index y).all id)])]⟩:=by
 rw[gC];generalize Xs.all id=b;unfold Eb;rw[if_pos h1];cases b;all_goals
  refine M.F Tryz.func106 ?_;refine M.w0 ?_;all_goals first|exfalso;simp_all;done|exact M.n2 AJ (h6:=(by(repeat'(first|exact trivial|refine And.intro ?_ ?_|refine⟨_,U,_,U,_,U,?_⟩|exact Ap.refl _|exact Ap.of_eq (by simp[Ao.AH,gY,iz])));done)) (h8:=nP)
theorem Yop:∀(n:Nat) (p:Pf) (v y:Int) (Xs:List Bool),p.full<=n->n<10000000000->(0<=v/\v+2*n<=50000000000)->(0<=y/\y+2*n<=50000000000)->p.nd->
 AC E 105 [.agg p.view,.agg [.i v,.i y],.agg [.nilf,.nilf,.fn (.func 106) [] [.ptr 0 0]]] ⟨1,[(0,.var [.bool (Xs.all id)])]⟩ (.AP []) ⟨1,[(0,.var [.bool ((Xs++p.DM (Eb) y).all id)])]⟩:=by
 intro n;induction n with
 |zero=>intro p v y Xs hz;have:=p.Ad;omega
 |succ n ih=>
 intro p v y Xs hz hn hv hh hs;have hre:=p.CC (Eb) y;have hsz':=p.Ag;have hlen:=ze Pf.full Pf.Ad p.args;have hlen1:=ze Fm.full Fm.Ad p.Ae;have hlen2:=ze Tm.full Tm.Ad p.terms;have hru:=Js p.kind;obtain⟨⟨nd,n1,n4⟩,hpf⟩:=(Pf.BU p).1 hs;have hal:p.args.length<=2:=by
  exact pW
 have hpl:=fun(m:Nat) (hm:m<=1000000)=>wd p.kind v y nd n1 m hm kn kn;have e2:Ds p.kind=[.bool nd.index,.bool nd.typ,.i nd.terms,.i nd.Ae,.i nd.args,.i (AN p.kind),.i (Aw p.kind),.i (AA p.kind)]:=lp
 have b1:0<=Aw p.kind/\Aw p.kind<=2:=kT
 have b2:0<=AA p.kind/\AA p.kind<=1:=kX
 have b3:0<=AN p.kind/\AN p.kind<=1:=kW
 rw[n1] at hru;simp only[gI] at hru;rw[e2] at hru;simp only[e2] at hpl;have hlf:=(fun hk:p.kind=1\/p.kind=2=>WC Xs p v y hk);have hno:nd.index=false->(Eb) p.kind p.index y=[]:=fun hi=>by
  have k1:p.kind≠1:=fun e=>lV
  have k2:p.kind≠2:=fun e=>lV
  simp[Eb,k1,k2]
 have hk0:nd.index=true->p.kind=1\/p.kind=2:=fun hi=>by
  refine gG fun hc=> ?_;have k1:p.kind≠1:=fun e=>hc (.inl e);have k2:p.kind≠2:=fun e=>hc (.inr e);have:nd.index=false:=by
   unfold B6 at n1;rw[if_neg kn] at n1
   repeat(split at n1;· cases n1;rfl)
   cases n1
  rw[this] at hi;cases hi
 obtain⟨X1,hX1⟩:∃X1,X1=Xs++(Eb) p.kind p.index y:=⟨_,rfl⟩;obtain⟨x3,x4,x5,ix,x2⟩:=nd;simp only at n4 hru hpl hno hk0;cases ix
 .have hX:X1=Xs:=by rw[hX1,hno rfl,gq]
  refine M.F Tryz.func105 ?_;refine M.w1 @hru ?_;refine M.rt p.terms.length
   (fun m=>([(3,.ptr 1 0),(4,.ptr 2 0),(5,.ptr 3 0),(6,.ptr 4 0),(33,.s .tm p.terms),(34,.i p.terms.length),(35,.i m)],⟨5,[(0,.var [.bool (X1.all id)]),(1,.var p.view),(2,.var [.i v,.i y]),(3,.var [.nilf,.nilf,.fn (.func 106) [] [.ptr 0 0]]),(4,.var [.bool false,.bool x2,.i x3,.i x4,.i x5,.i (AN p.kind),.i (Aw p.kind),.i (AA p.kind)])]⟩))
   (M.W C5 (he:=(by(repeat'(first|exact trivial|refine And.intro ?_ ?_|refine⟨_,U,_,U,_,U,?_⟩|exact Ap.refl _|exact Ap.of_eq (by simp[Ao.AH,hX])));done))) ?_ ?_
  .exact qb
  .intro _;skip;refine M.w0 ?_;refine M.rt p.Ae.length
    (fun m=>([(3,.ptr 1 0),(4,.ptr 2 0),(5,.ptr 3 0),(6,.ptr 4 0),(50,.s .fm p.Ae),(51,.i p.Ae.length),(52,.i m)],⟨5,[(0,.var [.bool (X1.all id)]),(1,.var p.view),(2,.var [.i v,.i y]),(3,.var [.nilf,.nilf,.fn (.func 106) [] [.ptr 0 0]]),(4,.var [.bool false,.bool x2,.i x3,.i x4,.i x5,.i (AN p.kind),.i (Aw p.kind),.i (AA p.kind)])]⟩))
    (M.W C5) ?_ ?_
   .exact qb
   .intro _;skip;refine M.w0 ?_;refine M.rt p.args.length
     (fun m=>([(3,.ptr 1 0),(4,.ptr 2 0),(5,.ptr 3 0),(6,.ptr 4 0),(70,.s .pf p.args),(71,.i p.args.length),(72,.i m)],⟨5,[(0,.var [.bool ((X1++((Pf.Bn (Eb) y (AA p.kind) p.args).take m).flatten).all id)]),(1,.var p.view),(2,.var [.i v,.i y]),(3,.var [.nilf,.nilf,.fn (.func 106) [] [.ptr 0 0]]),(4,.var [.bool false,.bool x2,.i x3,.i x4,.i x5,.i (AN p.kind),.i (Aw p.kind),.i (AA p.kind)])]⟩))
     (M.W C5 (he:=(by(repeat'(first|exact trivial|refine And.intro ?_ ?_|refine⟨_,U,_,U,_,U,?_⟩|exact Ap.refl _|exact Ap.of_eq lg));done))) ?_ ?_
    .intro m hm _;have hs2:=zc Pf.full (fA hm);have hb:=hpl m kn;have hc:=ih p.args[m] (if m+1=p.args.length then v+Aw p.kind else v) (if m+1=p.args.length then y+AA p.kind else y) (X1++((Pf.Bn (Eb) y (AA p.kind) p.args).take m).flatten) kn kn kJ kJ (hpf _ (fA hm));have e3:(X1++((Pf.Bn (Eb) y (AA p.kind) p.args).take m).flatten)++p.args[m].DM (Eb) (if m+1=p.args.length then y+AA p.kind else y)=(X1++((Pf.Bn (Eb) y (AA p.kind) p.args).take (m+1)).flatten):=by rw[fK,MZ (Eb) hm]
     rw[e3] at hc;have ev:(if(m:Int)=(x5:Int)-1 then y+AA p.kind else y)=(if m+1=p.args.length then y+AA p.kind else y):=by
      exact pS
     have ev2:(if(m:Int)=(x5:Int)-1 then v+Aw p.kind else v)=(if m+1=p.args.length then v+Aw p.kind else v):=by
      exact pS
     rw[ev,ev2] at hb;(repeat' first|refine M.w1 @hb ?_|refine M.cv (hc) [0] 0 ?_|fail);exact⟨rfl,trivial,(M.W C5)⟩
    .exact pX
 .have hlf:=hlf (hk0 rfl);refine M.F Tryz.func105 ?_;(repeat' first|refine M.w1 @hru ?_|refine M.cv (hlf) [0] 0 ?_|fail);refine M.rt p.terms.length
   (fun m=>([(3,.ptr 1 0),(4,.ptr 2 0),(5,.ptr 3 0),(6,.ptr 4 0),(33,.s .tm p.terms),(34,.i p.terms.length),(35,.i m)],⟨5,[(0,.var [.bool (X1.all id)]),(1,.var p.view),(2,.var [.i v,.i y]),(3,.var [.nilf,.nilf,.fn (.func 106) [] [.ptr 0 0]]),(4,.var [.bool true,.bool x2,.i x3,.i x4,.i x5,.i (AN p.kind),.i (Aw p.kind),.i (AA p.kind)])]⟩))
   (M.W C5 (he:=(by(repeat'(first|exact trivial|refine And.intro ?_ ?_|refine⟨_,U,_,U,_,U,?_⟩|exact Ap.refl _|exact Ap.of_eq (by simp[Ao.AH,hX1])));done))) ?_ ?_
  .exact qb
  .intro _;skip;refine M.w0 ?_;refine M.rt p.Ae.length
    (fun m=>([(3,.ptr 1 0),(4,.ptr 2 0),(5,.ptr 3 0),(6,.ptr 4 0),(50,.s .fm p.Ae),(51,.i p.Ae.length),(52,.i m)],⟨5,[(0,.var [.bool (X1.all id)]),(1,.var p.view),(2,.var [.i v,.i y]),(3,.var [.nilf,.nilf,.fn (.func 106) [] [.ptr 0 0]]),(4,.var [.bool true,.bool x2,.i x3,.i x4,.i x5,.i (AN p.kind),.i (Aw p.kind),.i (AA p.kind)])]⟩))
    (M.W C5) ?_ ?_
   .exact qb
   .intro _;skip;refine M.w0 ?_;refine M.rt p.args.length
     (fun m=>([(3,.ptr 1 0),(4,.ptr 2 0),(5,.ptr 3 0),(6,.ptr 4 0),(70,.s .pf p.args),(71,.i p.args.length),(72,.i m)],⟨5,[(0,.var [.bool ((X1++((Pf.Bn (Eb) y (AA p.kind) p.args).take m).flatten).all id)]),(1,.var p.view),(2,.var [.i v,.i y]),(3,.var [.nilf,.nilf,.fn (.func 106) [] [.ptr 0 0]]),(4,.var [.bool true,.bool x2,.i x3,.i x4,.i x5,.i (AN p.kind),.i (Aw p.kind),.i (AA p.kind)])]⟩))
     (M.W C5 (he:=(by(repeat'(first|exact trivial|refine And.intro ?_ ?_|refine⟨_,U,_,U,_,U,?_⟩|exact Ap.refl _|exact Ap.of_eq lg));done))) ?_ ?_
    .intro m hm _;have hs2:=zc Pf.full (fA hm);have hb:=hpl m kn;have hc:=ih p.args[m] (if m+1=p.args.length then v+Aw p.kind else v) (if m+1=p.args.length then y+AA p.kind else y) (X1++((Pf.Bn (Eb) y (AA p.kind) p.args).take m).flatten) kn kn kJ kJ (hpf _ (fA hm));have e3:(X1++((Pf.Bn (Eb) y (AA p.kind) p.args).take m).flatten)++p.args[m].DM (Eb) (if m+1=p.args.length then y+AA p.kind else y)=(X1++((Pf.Bn (Eb) y (AA p.kind) p.args).take (m+1)).flatten):=by rw[fK,MZ (Eb) hm]
     rw[e3] at hc;have ev:(if(m:Int)=(x5:Int)-1 then y+AA p.kind else y)=(if m+1=p.args.length then y+AA p.kind else y):=by
      exact pS
     have ev2:(if(m:Int)=(x5:Int)-1 then v+Aw p.kind else v)=(if m+1=p.args.length then v+Aw p.kind else v):=by
      exact pS
     rw[ev,ev2] at hb;(repeat' first|refine M.w1 @hb ?_|refine M.cv (hc) [0] 0 ?_|fail);exact⟨rfl,trivial,(M.W C5)⟩
    .exact pX
theorem Yie(p:Pf)(hp:p.full<1000000000)(hs:p.shape=true):PC E 44 [.agg p.view] (.bool p.Da):=by
 have h1:=SV p kn (Lg p hs);have h2:=V3 p kn (Lg p hs);have hc:=Yop _ p 0 0 [p.Br&&p.Bu] (fB _) kn kn kn (Lg p hs);unfold Pf.Da;rw[show([p.Br&&p.Bu].all id)=(p.Br&&p.Bu) by simp] at hc;generalize ([p.Br&&p.Bu]++p.DM Eb 0).all id=b at*;cases e1:p.Br with
 |false=>
  rw[e1,iz] at hc;rw[e1] at h1;refine M.F Tryz.func44 ?_;(repeat' first|refine M.w1 @h1 ?_|refine M.cv (hc) [1] 0 ?_|fail);simp[zn,V.wk,V.Ar,za,Ty.view,Tm.view]
 |true=>
  rw[e1,gY] at hc;rw[e1] at h1;generalize p.Bu=c at*;refine M.F Tryz.func44 ?_;(repeat' first|refine M.w2 @h1 @h2 ?_|refine M.cv (hc) [1] 0 ?_|fail);simp[zn,V.wk,V.Ar,za,Ty.view,Tm.view]
theorem Ybv(n:Nat)(lems:List Fm)(tys:List Ty)(hyps:List Fm)(pf:Nat->Pf)(dk:Nat->Dk)(xf:Nat->Fm)(us:Nat->List Int)(er:Nat->Int)(hl:∀m,m<4->er m≠0)
 (hA:∀m,AC E 20 [.ptr 0 0,.s .fm lems,.agg [.s .ty tys,.s .fm hyps],.i n] ⟨1,[(0,.var (dk m).cells)]⟩ (.agg (pf m).view) ⟨1,[(0,.var (dk (m+1)).cells)]⟩)
 (hI:∀m,PC E 14 [.s .fm lems,.agg [.s .ty tys,.s .fm hyps],.agg (pf m).view] (En (xf m) (us m) (er m)))
 {d':Dk} {i:Int} {p:Pf} {x:Fm} {u:List Int} {e:Int} (h1:AC E 12 [.ptr 0 0,.i 4] ⟨1,[(0,.var (dk 4).cells)]⟩ (.i i) ⟨1,[(0,.var d'.cells)]⟩)
 (h2:PC E 29 [.i i] (.agg (vu i).view)) (h3:PC E 28 [.agg (vu i).view] (.agg p.view))
 (h4:PC E 14 [.s .fm lems,.agg [.s .ty tys,.s .fm hyps],.agg p.view] (En x u e)):
 AC E 13 [.ptr 0 0,.s .fm lems,.agg [.s .ty tys,.s .fm hyps],.i n] ⟨1,[(0,.var (dk 0).cells)]⟩ (.AP [.agg p.view,.agg (x.view++[.s .int u])]) ⟨1,[(0,.var d'.cells)]⟩:=by
 generalize vu i=N at*;refine M.F Tryz.func13 ?_;refine M.w0 ?_;refine AW.block (AW.loop (ι:={m:Nat // m<=4})
  (fun m=>([(0,.ptr 0 0),(1,.s .fm lems),(3,.i n),(6,.ptr 1 0),(8,.ptr 2 0),(9,.ptr 3 0),(16,.i m.1)],⟨4,[(0,.var (dk m.1).cells),(1,.var [.s .ty tys,.s .fm hyps]),
   (2,.var [.i 0,.i 0,.i 0,.slice .nil (.t .ty []),.slice .nil (.t .tm []),.slice .nil (.t .fm []),.slice .nil (.t .pf [])]),
   (3,.var [.i 0,.i 0,.slice .nil (.t .ty []),.slice .nil (.t .tm []),.slice .nil (.t .fm []),.slice .nil (.t .int [])])]⟩))
  (fun m=>4-m.1) ⟨0,iH _⟩ (M.W D9) fun y=> ?_)
 have hmM:y.1<=4:=y.2;have hA1:=hA y.1;have hI1:=hI y.1;by_cases hy:y.1<4
 .have e:=hl _ hy;(repeat' first|refine M.w2 @hA1 @hI1 ?_|refine M.zb ?_|refine M.ks ?_ ?_<;>intro h|refine M.cs ?_ ?_<;>intro h|fail);all_goals first
   |(exfalso;simp at h;omega)
   |(exfalso;simp at h;exact e h)
   |skip
  refine⟨⟨y.1+1,hy⟩,lq,?_⟩;exact(M.W D9)
 .rw[show dk 4=dk y.1 by rw[show y.1=4 by omega]] at h1;(repeat' first|refine M.w4 @h1 @h2 @h3 @h4 ?_|refine M.zb ?_|refine M.ks ?_ ?_<;>intro h|fail);all_goals first|exfalso;simp at h;omega|exact M.n2 AJ (h8:=oK)
theorem UL:∀(n:Nat) (p:Pf),p.full<=n->n<1099511627776->PC E 16 [.agg p.view,.agg p.view] (.bool true):=by
 intro n;induction n with
 |zero=>intro p h;have:=p.Ad;omega
 |succ n ih=>
 intro p hsz hn;have hsz':=p.Ag;have hlen:=ze Pf.full Pf.Ad p.args;have h1:=cQ p.ty kn;have h2:=ZA p.terms kn;have h3:=Ztg p.Ae kn;refine M.F Tryz.func16 ?_;(repeat' first|refine M.w3 @h1 @h2 @h3 ?_|refine M.gs ?_ ?_<;>intro h|refine M.cs ?_ ?_<;>intro h|fail);all_goals first
  |(exfalso;simp at h;done)
  |skip
 refine M.rt p.args.length (fun m=>([(2,.ptr 0 0),(3,.ptr 1 0),(52,.s .pf p.args),(53,.i p.args.length),(54,.i m)],⟨2,[(0,.var p.view),(1,.var p.view)]⟩))
  (M.W Bo) ?_ ?_
 .intro m hm _;have hs2:=zc Pf.full (fA hm);have hc:=ih p.args[m] kn kn;refine M.w1 @hc ?_;exact⟨rfl,trivial,(M.W Bo)⟩
 .exact rI
theorem Yti(d:Dk):(Ck.mk d.lm.1 d.lm.2.ctx.1 d.lm.2.KS).ok:=by
 have h:=d.lm.2.MC;exact⟨h.ctx,h.nh,by have:=d.L3;simp only;omega,h.hyps,fun f hf=>Dk.Et _ _ _ zk f hf⟩
theorem Rj(g:List Ty){i:Int}(hi:0<=i/\i<4):CS g (vu i):=by
 obtain⟨m,rfl⟩:∃m:Nat,i=m:=⟨i.toNat,kn⟩;have h4:m=0\/m=1\/m=2\/m=3:=kn
 refine⟨?_,?_,?_⟩
 .rcases h4 with rfl|rfl|rfl|rfl<;>decide
 .rcases h4 with rfl|rfl|rfl|rfl<;>exact RL g _
 .rcases h4 with rfl|rfl|rfl|rfl<;>decide
theorem Sc(n:Nat)(hn:n<=4)(lems:List Fm)(tys:List Ty)(hyps:List Fm)(hc:(Ck.mk lems tys hyps).ok)(hs:Aj tys)(d:Dk)(hd:d.ok):
 ∃(p:Pf) (x:Fm) (u:List Int) (d':Dk),Made (DI n) p/\x.err=0/\x.A9 tys/\d'.ok/\
  AC E 13 [.ptr 0 0,.s .fm lems,.agg [.s .ty tys,.s .fm hyps],.i n] ⟨1,[(0,.var d.cells)]⟩ (.AP [.agg p.view,.agg (x.view++[.s .int u])]) ⟨1,[(0,.var d'.cells)]⟩:=by
 obtain⟨pf,dk,xf,us,er,rfl,hT⟩:=Yts n hn lems tys hyps hc hs d hd;have hA:=fun m=>(hT m).2.2.2.1;have hI:=fun m=>(hT m).2.2.2.2;have hit:∀M,M<4->er M=0->(∀m,m<M->er m≠0)->∃(p:Pf) (x:Fm) (u:List Int) (d':Dk),Made (DI n) p/\x.err=0/\x.A9 tys/\d'.ok/\
  AC E 13 [.ptr 0 0,.s .fm lems,.agg [.s .ty tys,.s .fm hyps],.i n] ⟨1,[(0,.var (dk 0).cells)]⟩ (.AP [.agg p.view,.agg (x.view++[.s .int u])]) ⟨1,[(0,.var d'.cells)]⟩:=fun M hM h0 hl=>
  ⟨pf M,xf M,us M,dk (M+1),(hT M).2.1,((hT M).2.2.1 h0).1,((hT M).2.2.1 h0).2,(hT (M+1)).1,Yfg n lems tys hyps pf dk xf us er M hM h0 hl hA hI⟩
 by_cases e0:er 0=0
 .exact hit 0 kn e0 (fun m h=>kn)
 by_cases e1:er 1=0
 .exact hit 1 kn e1 (fun m h=>by obtain rfl:m=0:=(by omega);exact e0)
 by_cases e2:er 2=0
 .exact hit 2 kn e2 (fun m h=>by
   rcases(show m=0\/m=1 by omega) with rfl|rfl
   .exact e0
   .exact e1)
 by_cases e3:er 3=0
 .exact hit 3 kn e3 (fun m h=>by
   rcases(show m=0\/m=1\/m=2 by omega) with rfl|rfl|rfl
   .exact e0
   .exact e1
   .exact e2)
 have h1:=FX (dk 4) 4 (hT 4).1 kn;have hb:=Dk.BC (dk 4) 4 kn;have no:=Rj tys (i:=((dk 4).next 4).1) kn;have ti:=DA.of no.err no.inf nS;have hm:=(Made.ref ti).up (show 300010<=DI n by have:=vp n;omega);have fN:=ye no.err;have h3:=vj (vu ((dk 4).next 4).1) kn;have h0:=hc.sum;have h4:=SW lems hyps tys (xz (vu ((dk 4).next 4).1)) (fun f hf=>nW) (fun f hf=>nX) ob nU nV
  (by have:=hm.full;have:=FD hn;show(Pf.mk 18 0 (.mk 0 []) [vu ((dk 4).next 4).1] [] []).full<_;omega)
 have hr:yb lems tys hyps (xz (vu ((dk 4).next 4).1))=(AV (vu ((dk 4).next 4).1) (vu ((dk 4).next 4).1),[],0):=by
  unfold yb;rw[if_neg pg,if_neg (by rw[eC no.err];simp)];exact Z7 (Rm hc no.err no.inf) (no.IU no)
 rw[hr] at h4;exact⟨_,_,_,_,hm,no.IU no,CK.2 ⟨no.inf,no.inf⟩,Dk.AQ (hT 4).1 4,
  Ybv n lems tys hyps pf dk xf us er (fun m hm4=>by
   rcases(show m=0\/m=1\/m=2\/m=3 by omega) with rfl|rfl|rfl|rfl
   .exact e0
   .exact e1
   .exact e2
   .exact e3) hA hI h1 (JR _) h3 h4⟩
end Go.Ab
