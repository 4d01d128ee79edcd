/- A part of this seat's proofs. No conditions. -/
import Derived.Test.YtmhcohcihajegaaGreatDoorCS16
import Derived.Test.YtmhcohcihajegaaGreatDoorCS18
namespace Go.Ab
open Go Go.Proofs
set_option maxRecDepth 100000
set_option maxHeartbeats 4000000
set_option linter.all false
theorem cj(n:Int)(b:Bool)(sz ti k:Int)(hs:0<=sz/\sz<=4096)(ht:0<=ti/\ti<=4096)(hk:1<=k/\k<=4096)(hn:0<=n/\n<=17000000000000000):
 AC E 226 [.ptr 0 0,.i sz,.i ti,.i k,.i 4096] ⟨1,[(0,.var [.i n,.bool b])]⟩ (.AP []) ⟨1,[(0,.var [.i (n+ti*(k-1)),.bool (b||decide (sz+ti*(k-1)>4096))])]⟩:=by
 have h3:0<=ti*(k-1):=ki ht.1 kn;have h4:ti*(k-1)<=4096*4095:=kj ht.2 kn kn kn;have hm': -9223372036854775808<=ti*(k-1)/\ti*(k-1)<=9223372036854775807:=kn
 cases b;all_goals
  refine M.F Tryz.func226 ?_;refine M.w0 ?_
  (exact M.n2 AJ (h8:=(by simp[zn,V.wk,V.Ar,za,Ty.view,Tm.view,Bool.true_or,Bool.false_or])))
theorem Za(a k n0:Int)(ha:0<=a/\a<=4096)(hk:1<=k/\k<=4096)(hn0:0<=n0/\n0<=1000000)(Xs:List (Int×Int))(t:Tm)(bl:Int)(he:t.err=0)(hb:0<=bl/\bl<100000000000)(hix:∀p∈t.vars 0,0<=p.1/\p.1<1099511627776)(hg:Dp (Xs++[BN a bl t])):
 AC E 225 [.agg t.view,.i bl,.ptr 0 0,.ptr 1 0,.ptr 2 0] ⟨4,[(0,.var [.ptr 3 0]),(1,.var [.i a]),(2,.var [.i k]),(3,.var [.i (Dt n0 k Xs),.bool (D7 k Xs)])]⟩ (.AP [])
  ⟨4,[(0,.var [.ptr 3 0]),(1,.var [.i a]),(2,.var [.i k]),(3,.var [.i (Dt n0 k (Xs++[BN a bl t])),.bool (D7 k (Xs++[BN a bl t]))])]⟩:=by
 have hf:=ye he;have h1:=O8 t kn;rw[he,show t.num=t.size by unfold Tm.num;rw[if_pos he]] at h1;have h2:=ZL t (a+bl) kn hix;have hx:=(hg.1 (BN a bl t) ko);have hp:=Dp.pre (List.prefix_append Xs [BN a bl t]) hg;have hbd:=TS (n:=n0) hk hn0 hp;have hl:=hp.2;rw[dF,YP];simp only[BN] at hx ⊢;have h3:=cj (Dt n0 k Xs) (D7 k Xs) t.size (cnt (a+bl) (t.vars 0)) k hx.1 hx.2 hk kn;obtain⟨N0,e1⟩:∃x,x=Dt n0 k Xs:=⟨_,rfl⟩;obtain⟨B0,e2⟩:∃x,x=D7 k Xs:=⟨_,rfl⟩;rw[<-e1,<-e2] at h3;rw[<-e1,<-e2];clear e1 e2 hbd hp hg hx hl;refine M.F Tryz.func225 ?_;(repeat' first|refine M.w2 @h1 @h2 ?_|refine M.cb (h3) [3] 0 ?_|fail)
 (exact M.n2 D9 (h8:=pK))
theorem XO(a k n0:Int)(ha:0<=a/\a<=4096)(hk:1<=k/\k<=4096)(hn0:0<=n0/\n0<=1000000)(Xs:List (Int×Int))(t:Fm)(bl:Int)(he:t.err=0)(hb:0<=bl/\bl<100000000000)(hix:∀p∈t.A6 0,∀q∈p.1.vars 0,0<=q.1/\q.1<1099511627776)(hg:Dp (Xs++[BX a bl t])):
 AC E 228 [.agg t.view,.i bl,.ptr 0 0,.ptr 1 0,.ptr 2 0] ⟨4,[(0,.var [.ptr 3 0]),(1,.var [.i a]),(2,.var [.i k]),(3,.var [.i (Dt n0 k Xs),.bool (D7 k Xs)])]⟩ (.AP [])
  ⟨4,[(0,.var [.ptr 3 0]),(1,.var [.i a]),(2,.var [.i k]),(3,.var [.i (Dt n0 k (Xs++[BX a bl t])),.bool (D7 k (Xs++[BX a bl t]))])]⟩:=by
 have hf:=yh he;have h1:=VU t kn;rw[he,show t.num=t.size by unfold Fm.num;rw[if_pos he]] at h1;have h2:=Zzm t (a+bl) kn kn hix;have hx:=(hg.1 (BX a bl t) ko);have hp:=Dp.pre (List.prefix_append Xs [BX a bl t]) hg;have hbd:=TS (n:=n0) hk hn0 hp;have hl:=hp.2;rw[dF,YP];simp only[BX] at hx ⊢;have h3:=cj (Dt n0 k Xs) (D7 k Xs) t.size (ud (a+bl) (t.A6 0)) k hx.1 hx.2 hk kn;obtain⟨N0,e1⟩:∃x,x=Dt n0 k Xs:=⟨_,rfl⟩;obtain⟨B0,e2⟩:∃x,x=D7 k Xs:=⟨_,rfl⟩;rw[<-e1,<-e2] at h3;rw[<-e1,<-e2];clear e1 e2 hbd hp hg hx hl;refine M.F Tryz.func228 ?_;(repeat' first|refine M.w2 @h1 @h2 ?_|refine M.cb (h3) [3] 0 ?_|fail)
 (exact M.n2 D9 (h8:=pK))
theorem Yr4(a k n0:Int)(ha:0<=a/\a<=4096)(hk:1<=k/\k<=4096)(hn0:0<=n0/\n0<=1000000):∀(n:Nat) (p:Pf) (v y:Int) (Xs:List (Int×Int)),p.full<=n->n<10000000000->(0<=v/\v+2*n<=50000000000)->(0<=y/\y+2*n<=50000000000)->p.nd->p.ix 1099511627776->p.shape=true->p.small=true->Dp (Xs++p.Ee (BN a) (BX a) v)->
 AC E 105 [.agg p.view,.agg [.i v,.i y],.agg [.fn (.func 225) [] [.ptr 0 0,.ptr 1 0,.ptr 2 0],.fn (.func 228) [] [.ptr 0 0,.ptr 1 0,.ptr 2 0],.nilf]] ⟨4,[(0,.var [.ptr 3 0]),(1,.var [.i a]),(2,.var [.i k]),(3,.var [.i (Dt n0 k Xs),.bool (D7 k Xs)])]⟩ (.AP []) ⟨4,[(0,.var [.ptr 3 0]),(1,.var [.i a]),(2,.var [.i k]),(3,.var [.i (Dt n0 k (Xs++p.Ee (BN a) (BX a) v)),.bool (D7 k (Xs++p.Ee (BN a) (BX a) v))])]⟩:=by
 intro n;induction n with
 |zero=>intro p v y Xs hz;have:=p.Ad;omega
 |succ n ih=>
 intro p v y Xs hz hn hv hh hs hix hsh hsm hg;obtain⟨i1,i2,i3⟩:=(Pf.Bl _ p).1 hix;obtain⟨s1,s2,s3⟩:=wq hsm;obtain⟨_,s4,s5,s6⟩:=zh hsh;have te:∀t∈p.terms,t.err=0:=fun t h=>(Tm.Aa t).2 ⟨s4 t h,s1 t h⟩;have fe:∀t∈p.Ae,t.err=0:=fun t h=>(Fm.Aa t).2 ⟨s5 t h,s2 t h⟩;have hg0:=hg;rw[p.CM (BN a) (BX a) v] at hg;have hre:=p.CM (BN a) (BX a) v;have hsz':=p.Ag;have hlen:=ze Pf.full Pf.Ad p.args;have hlen1:=ze Fm.full Fm.Ad p.Ae;have hlen2:=ze Tm.full Tm.Ad p.terms;have hru:=Js p.kind;obtain⟨⟨nd,n1,n4⟩,hpf⟩:=(Pf.BU p).1 hs;have hal:p.args.length<=2:=by
  exact pW
 have hpl:=fun(m:Nat) (hm:m<=1000000)=>wd p.kind v y nd n1 m hm kn kn;have e2:Ds p.kind=[.bool nd.index,.bool nd.typ,.i nd.terms,.i nd.Ae,.i nd.args,.i (AN p.kind),.i (Aw p.kind),.i (AA p.kind)]:=lp
 have b1:0<=Aw p.kind/\Aw p.kind<=2:=kT
 have b2:0<=AA p.kind/\AA p.kind<=1:=kX
 have b3:0<=AN p.kind/\AN p.kind<=1:=kW
 rw[n1] at hru;simp only[gI] at hru;rw[e2] at hru;simp only[e2] at hpl;clear n1 e2;obtain⟨x3,x4,x5,ix,x2⟩:=nd;simp only at n4 hru hpl;cases ix
 .refine M.F Tryz.func105 ?_;refine M.w1 @hru ?_;refine M.rt p.terms.length
   (fun m=>([(3,.ptr 4 0),(4,.ptr 5 0),(5,.ptr 6 0),(6,.ptr 7 0),(33,.s .tm p.terms),(34,.i p.terms.length),(35,.i m)],⟨8,[(0,.var [.ptr 3 0]),(1,.var [.i a]),(2,.var [.i k]),(3,.var [.i (Dt n0 k (Xs++(p.terms.take m).map ((BN a) v))),.bool (D7 k (Xs++(p.terms.take m).map ((BN a) v)))]),(4,.var p.view),(5,.var [.i v,.i y]),(6,.var [.fn (.func 225) [] [.ptr 0 0,.ptr 1 0,.ptr 2 0],.fn (.func 228) [] [.ptr 0 0,.ptr 1 0,.ptr 2 0],.nilf]),(7,.var [.bool false,.bool x2,.i x3,.i x4,.i x5,.i (AN p.kind),.i (Aw p.kind),.i (AA p.kind)])]⟩))
   (M.W Ix (he:=(by(repeat'(first|exact trivial|refine And.intro ?_ ?_|refine⟨_,U,_,U,_,U,?_⟩|exact Ap.refl _|exact Ap.of_eq lH));done))) ?_ ?_
  .exact p8
  .intro _;simp only[fH];refine M.w0 ?_;refine M.rt p.Ae.length
    (fun m=>([(3,.ptr 4 0),(4,.ptr 5 0),(5,.ptr 6 0),(6,.ptr 7 0),(50,.s .fm p.Ae),(51,.i p.Ae.length),(52,.i m)],⟨8,[(0,.var [.ptr 3 0]),(1,.var [.i a]),(2,.var [.i k]),(3,.var [.i (Dt n0 k (Xs++p.terms.map ((BN a) v)++(p.Ae.take m).map ((BX a) (v+AN p.kind)))),.bool (D7 k (Xs++p.terms.map ((BN a) v)++(p.Ae.take m).map ((BX a) (v+AN p.kind))))]),(4,.var p.view),(5,.var [.i v,.i y]),(6,.var [.fn (.func 225) [] [.ptr 0 0,.ptr 1 0,.ptr 2 0],.fn (.func 228) [] [.ptr 0 0,.ptr 1 0,.ptr 2 0],.nilf]),(7,.var [.bool false,.bool x2,.i x3,.i x4,.i x5,.i (AN p.kind),.i (Aw p.kind),.i (AA p.kind)])]⟩))
    (M.W Ix (he:=(by(repeat'(first|exact trivial|refine And.intro ?_ ?_|refine⟨_,U,_,U,_,U,?_⟩|exact Ap.refl _|exact Ap.of_eq lH));done))) ?_ ?_
   .exact pZ
   .intro _;simp only[fH];refine M.w0 ?_;refine M.rt p.args.length
     (fun m=>([(3,.ptr 4 0),(4,.ptr 5 0),(5,.ptr 6 0),(6,.ptr 7 0),(70,.s .pf p.args),(71,.i p.args.length),(72,.i m)],⟨8,[(0,.var [.ptr 3 0]),(1,.var [.i a]),(2,.var [.i k]),(3,.var [.i (Dt n0 k (Xs++p.terms.map ((BN a) v)++p.Ae.map ((BX a) (v+AN p.kind))++((Pf.Bp (BN a) (BX a) v (Aw p.kind) p.args).take m).flatten)),.bool (D7 k (Xs++p.terms.map ((BN a) v)++p.Ae.map ((BX a) (v+AN p.kind))++((Pf.Bp (BN a) (BX a) v (Aw p.kind) p.args).take m).flatten))]),(4,.var p.view),(5,.var [.i v,.i y]),(6,.var [.fn (.func 225) [] [.ptr 0 0,.ptr 1 0,.ptr 2 0],.fn (.func 228) [] [.ptr 0 0,.ptr 1 0,.ptr 2 0],.nilf]),(7,.var [.bool false,.bool x2,.i x3,.i x4,.i x5,.i (AN p.kind),.i (Aw p.kind),.i (AA p.kind)])]⟩))
     (M.W Ix (he:=(by(repeat'(first|exact trivial|refine And.intro ?_ ?_|refine⟨_,U,_,U,_,U,?_⟩|exact Ap.refl _|exact Ap.of_eq lg));done))) ?_ ?_
    .intro m hm _;have hs2:=zc Pf.full (fA hm);have hb:=hpl m kn;have hc:=ih p.args[m] (if m+1=p.args.length then v+Aw p.kind else v) (if m+1=p.args.length then y+AA p.kind else y) (Xs++p.terms.map ((BN a) v)++p.Ae.map ((BX a) (v+AN p.kind))++((Pf.Bp (BN a) (BX a) v (Aw p.kind) p.args).take m).flatten) kn kn kJ kJ (hpf _ (fA hm)) (i3 _ (fA hm)) (s6 _ (fA hm)) (s3 _ (fA hm)) (Dp.pre ow hg);have e3:(Xs++p.terms.map ((BN a) v)++p.Ae.map ((BX a) (v+AN p.kind))++((Pf.Bp (BN a) (BX a) v (Aw p.kind) p.args).take m).flatten)++p.args[m].Ee (BN a) (BX a) (if m+1=p.args.length then v+Aw p.kind else v)=(Xs++p.terms.map ((BN a) v)++p.Ae.map ((BX a) (v+AN p.kind))++((Pf.Bp (BN a) (BX a) v (Aw p.kind) p.args).take (m+1)).flatten):=by rw[fK,Sw (BN a) (BX a) hm]
     rw[e3] at hc;have ev:(if(m:Int)=(x5:Int)-1 then y+AA p.kind else y)=(if m+1=p.args.length then y+AA p.kind else y):=by
      exact pS
     have ev2:(if(m:Int)=(x5:Int)-1 then v+Aw p.kind else v)=(if m+1=p.args.length then v+Aw p.kind else v):=by
      exact pS
     rw[ev,ev2] at hb;(repeat' first|refine M.w1 @hb ?_|refine M.cv (hc) [0,1,2,3] 0 ?_|fail);exact⟨rfl,trivial,(M.W Ix)⟩
    .exact qE
 .refine M.F Tryz.func105 ?_;refine M.w1 @hru ?_;refine M.rt p.terms.length
   (fun m=>([(3,.ptr 4 0),(4,.ptr 5 0),(5,.ptr 6 0),(6,.ptr 7 0),(33,.s .tm p.terms),(34,.i p.terms.length),(35,.i m)],⟨8,[(0,.var [.ptr 3 0]),(1,.var [.i a]),(2,.var [.i k]),(3,.var [.i (Dt n0 k (Xs++(p.terms.take m).map ((BN a) v))),.bool (D7 k (Xs++(p.terms.take m).map ((BN a) v)))]),(4,.var p.view),(5,.var [.i v,.i y]),(6,.var [.fn (.func 225) [] [.ptr 0 0,.ptr 1 0,.ptr 2 0],.fn (.func 228) [] [.ptr 0 0,.ptr 1 0,.ptr 2 0],.nilf]),(7,.var [.bool true,.bool x2,.i x3,.i x4,.i x5,.i (AN p.kind),.i (Aw p.kind),.i (AA p.kind)])]⟩))
   (M.W Ix (he:=(by(repeat'(first|exact trivial|refine And.intro ?_ ?_|refine⟨_,U,_,U,_,U,?_⟩|exact Ap.refl _|exact Ap.of_eq lH));done))) ?_ ?_
  .exact p8
  .intro _;simp only[fH];refine M.w0 ?_;refine M.rt p.Ae.length
    (fun m=>([(3,.ptr 4 0),(4,.ptr 5 0),(5,.ptr 6 0),(6,.ptr 7 0),(50,.s .fm p.Ae),(51,.i p.Ae.length),(52,.i m)],⟨8,[(0,.var [.ptr 3 0]),(1,.var [.i a]),(2,.var [.i k]),(3,.var [.i (Dt n0 k (Xs++p.terms.map ((BN a) v)++(p.Ae.take m).map ((BX a) (v+AN p.kind)))),.bool (D7 k (Xs++p.terms.map ((BN a) v)++(p.Ae.take m).map ((BX a) (v+AN p.kind))))]),(4,.var p.view),(5,.var [.i v,.i y]),(6,.var [.fn (.func 225) [] [.ptr 0 0,.ptr 1 0,.ptr 2 0],.fn (.func 228) [] [.ptr 0 0,.ptr 1 0,.ptr 2 0],.nilf]),(7,.var [.bool true,.bool x2,.i x3,.i x4,.i x5,.i (AN p.kind),.i (Aw p.kind),.i (AA p.kind)])]⟩))
    (M.W Ix (he:=(by(repeat'(first|exact trivial|refine And.intro ?_ ?_|refine⟨_,U,_,U,_,U,?_⟩|exact Ap.refl _|exact Ap.of_eq lH));done))) ?_ ?_
   .exact pZ
   .intro _;simp only[fH];refine M.w0 ?_;refine M.rt p.args.length
     (fun m=>([(3,.ptr 4 0),(4,.ptr 5 0),(5,.ptr 6 0),(6,.ptr 7 0),(70,.s .pf p.args),(71,.i p.args.length),(72,.i m)],⟨8,[(0,.var [.ptr 3 0]),(1,.var [.i a]),(2,.var [.i k]),(3,.var [.i (Dt n0 k (Xs++p.terms.map ((BN a) v)++p.Ae.map ((BX a) (v+AN p.kind))++((Pf.Bp (BN a) (BX a) v (Aw p.kind) p.args).take m).flatten)),.bool (D7 k (Xs++p.terms.map ((BN a) v)++p.Ae.map ((BX a) (v+AN p.kind))++((Pf.Bp (BN a) (BX a) v (Aw p.kind) p.args).take m).flatten))]),(4,.var p.view),(5,.var [.i v,.i y]),(6,.var [.fn (.func 225) [] [.ptr 0 0,.ptr 1 0,.ptr 2 0],.fn (.func 228) [] [.ptr 0 0,.ptr 1 0,.ptr 2 0],.nilf]),(7,.var [.bool true,.bool x2,.i x3,.i x4,.i x5,.i (AN p.kind),.i (Aw p.kind),.i (AA p.kind)])]⟩))
     (M.W Ix (he:=(by(repeat'(first|exact trivial|refine And.intro ?_ ?_|refine⟨_,U,_,U,_,U,?_⟩|exact Ap.refl _|exact Ap.of_eq lg));done))) ?_ ?_
    .intro m hm _;have hs2:=zc Pf.full (fA hm);have hb:=hpl m kn;have hc:=ih p.args[m] (if m+1=p.args.length then v+Aw p.kind else v) (if m+1=p.args.length then y+AA p.kind else y) (Xs++p.terms.map ((BN a) v)++p.Ae.map ((BX a) (v+AN p.kind))++((Pf.Bp (BN a) (BX a) v (Aw p.kind) p.args).take m).flatten) kn kn kJ kJ (hpf _ (fA hm)) (i3 _ (fA hm)) (s6 _ (fA hm)) (s3 _ (fA hm)) (Dp.pre ow hg);have e3:(Xs++p.terms.map ((BN a) v)++p.Ae.map ((BX a) (v+AN p.kind))++((Pf.Bp (BN a) (BX a) v (Aw p.kind) p.args).take m).flatten)++p.args[m].Ee (BN a) (BX a) (if m+1=p.args.length then v+Aw p.kind else v)=(Xs++p.terms.map ((BN a) v)++p.Ae.map ((BX a) (v+AN p.kind))++((Pf.Bp (BN a) (BX a) v (Aw p.kind) p.args).take (m+1)).flatten):=by rw[fK,Sw (BN a) (BX a) hm]
     rw[e3] at hc;have ev:(if(m:Int)=(x5:Int)-1 then y+AA p.kind else y)=(if m+1=p.args.length then y+AA p.kind else y):=by
      exact pS
     have ev2:(if(m:Int)=(x5:Int)-1 then v+Aw p.kind else v)=(if m+1=p.args.length then v+Aw p.kind else v):=by
      exact pS
     rw[ev,ev2] at hb;(repeat' first|refine M.w1 @hb ?_|refine M.cv (hc) [0,1,2,3] 0 ?_|fail);exact⟨rfl,trivial,(M.W Ix)⟩
    .exact qE
theorem WU(Xs:List Bool)(p:Pf)(v y:Int):AC E 120 [.agg p.view,.agg [.i v,.i y],.ptr 0 0] ⟨1,[(0,.var [.bool (Xs.all id)])]⟩ (.AP []) ⟨1,[(0,.var [.bool ((Xs++DO p.kind p.index y).all id)])]⟩:=by
 rw[gC];generalize Xs.all id=b;unfold DO;by_cases h1:p.kind=1
 .rw[if_pos h1];cases b;all_goals
   refine M.F Tryz.func120 ?_;(repeat' first|refine M.w0 ?_|refine M.gs ?_ ?_<;>intro h|fail);all_goals first|exfalso;simp at h;exact absurd h1 h|exfalso;simp_all;done|exact M.n2 AJ (h6:=(by(repeat'(first|exact trivial|refine And.intro ?_ ?_|refine⟨_,U,_,U,_,U,?_⟩|exact Ap.refl _|exact Ap.of_eq (by simp[Ao.AH,gY,iz,h1])));done)) (h8:=oS)
 .rw[if_neg h1];cases b;all_goals
   refine M.F Tryz.func120 ?_;(repeat' first|refine M.w0 ?_|refine M.gs ?_ ?_<;>intro h|fail);all_goals first|exfalso;simp at h;exact absurd h h1|exfalso;simp_all;done|exact M.n2 AJ (h8:=oS)
theorem Yqv:∀(n:Nat) (p:Pf) (v y:Int) (Xs:List Bool),p.full<=n->n<10000000000->(0<=v/\v+2*n<=50000000000)->(0<=y/\y+2*n<=50000000000)->p.nd->
 AC E 105 [.agg p.view,.agg [.i v,.i y],.agg [.nilf,.nilf,.fn (.func 120) [] [.ptr 0 0]]] ⟨1,[(0,.var [.bool (Xs.all id)])]⟩ (.AP []) ⟨1,[(0,.var [.bool ((Xs++p.DM (DO) y).all id)])]⟩:=by
 intro n;induction n with
 |zero=>intro p v y Xs hz;have:=p.Ad;omega
 |succ n ih=>
 intro p v y Xs hz hn hv hh hs;have hre:=p.CC (DO) y;have hsz':=p.Ag;have hlen:=ze Pf.full Pf.Ad p.args;have hlen1:=ze Fm.full Fm.Ad p.Ae;have hlen2:=ze Tm.full Tm.Ad p.terms;have hru:=Js p.kind;obtain⟨⟨nd,n1,n4⟩,hpf⟩:=(Pf.BU p).1 hs;have hal:p.args.length<=2:=by
  exact pW
 have hpl:=fun(m:Nat) (hm:m<=1000000)=>wd p.kind v y nd n1 m hm kn kn;have e2:Ds p.kind=[.bool nd.index,.bool nd.typ,.i nd.terms,.i nd.Ae,.i nd.args,.i (AN p.kind),.i (Aw p.kind),.i (AA p.kind)]:=lp
 have b1:0<=Aw p.kind/\Aw p.kind<=2:=kT
 have b2:0<=AA p.kind/\AA p.kind<=1:=kX
 have b3:0<=AN p.kind/\AN p.kind<=1:=kW
 rw[n1] at hru;simp only[gI] at hru;rw[e2] at hru;simp only[e2] at hpl;have hlf:=WU Xs p v y;have hno:nd.index=false->(DO) p.kind p.index y=[]:=fun hi=>by
  exact sJ
 obtain⟨X1,hX1⟩:∃X1,X1=Xs++(DO) p.kind p.index y:=⟨_,rfl⟩;obtain⟨x3,x4,x5,ix,x2⟩:=nd;simp only at n4 hru hpl hno;cases ix
 .have hX:X1=Xs:=by rw[hX1,hno rfl,gq]
  refine M.F Tryz.func105 ?_;refine M.w1 @hru ?_;refine M.rt p.terms.length
   (fun m=>([(3,.ptr 1 0),(4,.ptr 2 0),(5,.ptr 3 0),(6,.ptr 4 0),(33,.s .tm p.terms),(34,.i p.terms.length),(35,.i m)],⟨5,[(0,.var [.bool (X1.all id)]),(1,.var p.view),(2,.var [.i v,.i y]),(3,.var [.nilf,.nilf,.fn (.func 120) [] [.ptr 0 0]]),(4,.var [.bool false,.bool x2,.i x3,.i x4,.i x5,.i (AN p.kind),.i (Aw p.kind),.i (AA p.kind)])]⟩))
   (M.W C5 (he:=(by(repeat'(first|exact trivial|refine And.intro ?_ ?_|refine⟨_,U,_,U,_,U,?_⟩|exact Ap.refl _|exact Ap.of_eq (by simp[Ao.AH,hX])));done))) ?_ ?_
  .exact qb
  .intro _;skip;refine M.w0 ?_;refine M.rt p.Ae.length
    (fun m=>([(3,.ptr 1 0),(4,.ptr 2 0),(5,.ptr 3 0),(6,.ptr 4 0),(50,.s .fm p.Ae),(51,.i p.Ae.length),(52,.i m)],⟨5,[(0,.var [.bool (X1.all id)]),(1,.var p.view),(2,.var [.i v,.i y]),(3,.var [.nilf,.nilf,.fn (.func 120) [] [.ptr 0 0]]),(4,.var [.bool false,.bool x2,.i x3,.i x4,.i x5,.i (AN p.kind),.i (Aw p.kind),.i (AA p.kind)])]⟩))
    (M.W C5) ?_ ?_
   .exact qb
   .intro _;skip;refine M.w0 ?_;refine M.rt p.args.length
     (fun m=>([(3,.ptr 1 0),(4,.ptr 2 0),(5,.ptr 3 0),(6,.ptr 4 0),(70,.s .pf p.args),(71,.i p.args.length),(72,.i m)],⟨5,[(0,.var [.bool ((X1++((Pf.Bn (DO) y (AA p.kind) p.args).take m).flatten).all id)]),(1,.var p.view),(2,.var [.i v,.i y]),(3,.var [.nilf,.nilf,.fn (.func 120) [] [.ptr 0 0]]),(4,.var [.bool false,.bool x2,.i x3,.i x4,.i x5,.i (AN p.kind),.i (Aw p.kind),.i (AA p.kind)])]⟩))
     (M.W C5 (he:=(by(repeat'(first|exact trivial|refine And.intro ?_ ?_|refine⟨_,U,_,U,_,U,?_⟩|exact Ap.refl _|exact Ap.of_eq lg));done))) ?_ ?_
    .intro m hm _;have hs2:=zc Pf.full (fA hm);have hb:=hpl m kn;have hc:=ih p.args[m] (if m+1=p.args.length then v+Aw p.kind else v) (if m+1=p.args.length then y+AA p.kind else y) (X1++((Pf.Bn (DO) y (AA p.kind) p.args).take m).flatten) kn kn kJ kJ (hpf _ (fA hm));have e3:(X1++((Pf.Bn (DO) y (AA p.kind) p.args).take m).flatten)++p.args[m].DM (DO) (if m+1=p.args.length then y+AA p.kind else y)=(X1++((Pf.Bn (DO) y (AA p.kind) p.args).take (m+1)).flatten):=by rw[fK,MZ (DO) hm]
     rw[e3] at hc;have ev:(if(m:Int)=(x5:Int)-1 then y+AA p.kind else y)=(if m+1=p.args.length then y+AA p.kind else y):=by
      exact pS
     have ev2:(if(m:Int)=(x5:Int)-1 then v+Aw p.kind else v)=(if m+1=p.args.length then v+Aw p.kind else v):=by
      exact pS
     rw[ev,ev2] at hb;(repeat' first|refine M.w1 @hb ?_|refine M.cv (hc) [0] 0 ?_|fail);exact⟨rfl,trivial,(M.W C5)⟩
    .exact pX
 .refine M.F Tryz.func105 ?_;(repeat' first|refine M.w1 @hru ?_|refine M.cv (hlf) [0] 0 ?_|fail);refine M.rt p.terms.length
   (fun m=>([(3,.ptr 1 0),(4,.ptr 2 0),(5,.ptr 3 0),(6,.ptr 4 0),(33,.s .tm p.terms),(34,.i p.terms.length),(35,.i m)],⟨5,[(0,.var [.bool (X1.all id)]),(1,.var p.view),(2,.var [.i v,.i y]),(3,.var [.nilf,.nilf,.fn (.func 120) [] [.ptr 0 0]]),(4,.var [.bool true,.bool x2,.i x3,.i x4,.i x5,.i (AN p.kind),.i (Aw p.kind),.i (AA p.kind)])]⟩))
   (M.W C5 (he:=(by(repeat'(first|exact trivial|refine And.intro ?_ ?_|refine⟨_,U,_,U,_,U,?_⟩|exact Ap.refl _|exact Ap.of_eq (by simp[Ao.AH,hX1])));done))) ?_ ?_
  .exact qb
  .intro _;skip;refine M.w0 ?_;refine M.rt p.Ae.length
    (fun m=>([(3,.ptr 1 0),(4,.ptr 2 0),(5,.ptr 3 0),(6,.ptr 4 0),(50,.s .fm p.Ae),(51,.i p.Ae.length),(52,.i m)],⟨5,[(0,.var [.bool (X1.all id)]),(1,.var p.view),(2,.var [.i v,.i y]),(3,.var [.nilf,.nilf,.fn (.func 120) [] [.ptr 0 0]]),(4,.var [.bool true,.bool x2,.i x3,.i x4,.i x5,.i (AN p.kind),.i (Aw p.kind),.i (AA p.kind)])]⟩))
    (M.W C5) ?_ ?_
   .exact qb
   .intro _;skip;refine M.w0 ?_;refine M.rt p.args.length
     (fun m=>([(3,.ptr 1 0),(4,.ptr 2 0),(5,.ptr 3 0),(6,.ptr 4 0),(70,.s .pf p.args),(71,.i p.args.length),(72,.i m)],⟨5,[(0,.var [.bool ((X1++((Pf.Bn (DO) y (AA p.kind) p.args).take m).flatten).all id)]),(1,.var p.view),(2,.var [.i v,.i y]),(3,.var [.nilf,.nilf,.fn (.func 120) [] [.ptr 0 0]]),(4,.var [.bool true,.bool x2,.i x3,.i x4,.i x5,.i (AN p.kind),.i (Aw p.kind),.i (AA p.kind)])]⟩))
     (M.W C5 (he:=(by(repeat'(first|exact trivial|refine And.intro ?_ ?_|refine⟨_,U,_,U,_,U,?_⟩|exact Ap.refl _|exact Ap.of_eq lg));done))) ?_ ?_
    .intro m hm _;have hs2:=zc Pf.full (fA hm);have hb:=hpl m kn;have hc:=ih p.args[m] (if m+1=p.args.length then v+Aw p.kind else v) (if m+1=p.args.length then y+AA p.kind else y) (X1++((Pf.Bn (DO) y (AA p.kind) p.args).take m).flatten) kn kn kJ kJ (hpf _ (fA hm));have e3:(X1++((Pf.Bn (DO) y (AA p.kind) p.args).take m).flatten)++p.args[m].DM (DO) (if m+1=p.args.length then y+AA p.kind else y)=(X1++((Pf.Bn (DO) y (AA p.kind) p.args).take (m+1)).flatten):=by rw[fK,MZ (DO) hm]
     rw[e3] at hc;have ev:(if(m:Int)=(x5:Int)-1 then y+AA p.kind else y)=(if m+1=p.args.length then y+AA p.kind else y):=by
      exact pS
     have ev2:(if(m:Int)=(x5:Int)-1 then v+Aw p.kind else v)=(if m+1=p.args.length then v+Aw p.kind else v):=by
      exact pS
     rw[ev,ev2] at hb;(repeat' first|refine M.w1 @hb ?_|refine M.cv (hc) [0] 0 ?_|fail);exact⟨rfl,trivial,(M.W C5)⟩
    .exact pX
theorem Uw(a:Int)(Xs:List Int)(p:Pf)(v y:Int)(hp:p.kind=1->0<=p.index/\p.index<9223372036854775808)(hy:0<=y/\y<100000000000)(hl:Xs.length<=2000000000):
 AC E 125 [.agg p.view,.agg [.i v,.i y],.ptr 0 0,.ptr 1 0] ⟨2,[(0,.var [.i a]),(1,.var [.i Xs.length])]⟩ (.AP []) ⟨2,[(0,.var [.i a]),(1,.var [.i (Xs++C3 a p.kind p.index y).length])]⟩:=by
 rw[ga];unfold C3;by_cases h0:p.kind=1;case neg=>
  rw[if_neg (fun h=>h0 h.1)];refine M.F Tryz.func125 ?_;(repeat' first|refine M.w0 ?_|refine M.gs ?_ ?_<;>intro h|refine M.cs ?_ ?_<;>intro h|fail);all_goals first|exfalso;simp_all;done|exact M.n2 Bo (h8:=pL)
 have hp:=hp h0;by_cases h1:p.kind=1/\p.index-y=a
 .rw[if_pos h1];refine M.F Tryz.func125 ?_;(repeat' first|refine M.w0 ?_|refine M.gs ?_ ?_<;>intro h|refine M.cs ?_ ?_<;>intro h|fail);all_goals first|exfalso;simp_all;done|exact M.n2 Bo (h8:=(by simp[zn,V.wk,V.Ar,za,Ty.view,Tm.view,fQ,gB]))
 .rw[if_neg h1];refine M.F Tryz.func125 ?_;(repeat' first|refine M.w0 ?_|refine M.gs ?_ ?_<;>intro h|refine M.cs ?_ ?_<;>intro h|fail);all_goals first|exfalso;apply h1;simp_all;done|exfalso;simp_all;done|exact M.n2 Bo (h8:=pL)
theorem Yq1(a:Int):∀(n:Nat) (p:Pf) (v y:Int) (Xs:List Int),p.full<=n->n<10000000000->(0<=v/\v+2*n<=50000000000)->(0<=y/\y+2*n<=50000000000)->p.nd->p.hx 9223372036854775808->(Xs++p.DM (C3 a) y).length<=2000000000->
 AC E 105 [.agg p.view,.agg [.i v,.i y],.agg [.nilf,.nilf,.fn (.func 125) [] [.ptr 0 0,.ptr 1 0]]] ⟨2,[(0,.var [.i a]),(1,.var [.i (Xs).length])]⟩ (.AP []) ⟨2,[(0,.var [.i a]),(1,.var [.i ((Xs++p.DM (C3 a) y)).length])]⟩:=by
 intro n;induction n with
 |zero=>intro p v y Xs hz;have:=p.Ad;omega
 |succ n ih=>
 intro p v y Xs hz hn hv hh hs hhx hxl;obtain⟨i1,i2⟩:=(Pf.Bj _ p).1 hhx;have hka:0<p.args.length->p.kind≠1:=fun h0 e=>by
  obtain⟨⟨nd0,a1,a2⟩,_⟩:=(Pf.BU p).1 hs;rw[e] at a1;simp[B6] at a1;rw[<-a1] at a2;simp at a2;simp[a2] at h0
 have hxl2:=hxl;rw[p.CC (C3 a) y,<-fK] at hxl2;have hre:=p.CC (C3 a) y;have hsz':=p.Ag;have hlen:=ze Pf.full Pf.Ad p.args;have hlen1:=ze Fm.full Fm.Ad p.Ae;have hlen2:=ze Tm.full Tm.Ad p.terms;have hru:=Js p.kind;obtain⟨⟨nd,n1,n4⟩,hpf⟩:=(Pf.BU p).1 hs;have hal:p.args.length<=2:=by
  exact pW
 have hpl:=fun(m:Nat) (hm:m<=1000000)=>wd p.kind v y nd n1 m hm kn kn;have e2:Ds p.kind=[.bool nd.index,.bool nd.typ,.i nd.terms,.i nd.Ae,.i nd.args,.i (AN p.kind),.i (Aw p.kind),.i (AA p.kind)]:=lp
 have b1:0<=Aw p.kind/\Aw p.kind<=2:=kT
 have b2:0<=AA p.kind/\AA p.kind<=1:=kX
 have b3:0<=AN p.kind/\AN p.kind<=1:=kW
 rw[n1] at hru;simp only[gI] at hru;rw[e2] at hru;simp only[e2] at hpl;have hlf:=Uw a Xs p v y i1 kn (by rw[ga] at hxl;omega);have hno:nd.index=false->(C3 a) p.kind p.index y=[]:=fun hi=>by
  exact sJ
 obtain⟨X1,hX1⟩:∃X1,X1=Xs++(C3 a) p.kind p.index y:=⟨_,rfl⟩;obtain⟨x3,x4,x5,ix,x2⟩:=nd;simp only at n4 hru hpl hno;cases ix
 .have hX:X1=Xs:=by rw[hX1,hno rfl,gq]
  refine M.F Tryz.func105 ?_;refine M.w1 @hru ?_;refine M.rt p.terms.length
   (fun m=>([(3,.ptr 2 0),(4,.ptr 3 0),(5,.ptr 4 0),(6,.ptr 5 0),(33,.s .tm p.terms),(34,.i p.terms.length),(35,.i m)],⟨6,[(0,.var [.i a]),(1,.var [.i (X1).length]),(2,.var p.view),(3,.var [.i v,.i y]),(4,.var [.nilf,.nilf,.fn (.func 125) [] [.ptr 0 0,.ptr 1 0]]),(5,.var [.bool false,.bool x2,.i x3,.i x4,.i x5,.i (AN p.kind),.i (Aw p.kind),.i (AA p.kind)])]⟩))
   (M.W ID (he:=(by(repeat'(first|exact trivial|refine And.intro ?_ ?_|refine⟨_,U,_,U,_,U,?_⟩|exact Ap.refl _|exact Ap.of_eq (by simp[Ao.AH,hX])));done))) ?_ ?_
  .exact qN
  .intro _;skip;refine M.w0 ?_;refine M.rt p.Ae.length
    (fun m=>([(3,.ptr 2 0),(4,.ptr 3 0),(5,.ptr 4 0),(6,.ptr 5 0),(50,.s .fm p.Ae),(51,.i p.Ae.length),(52,.i m)],⟨6,[(0,.var [.i a]),(1,.var [.i (X1).length]),(2,.var p.view),(3,.var [.i v,.i y]),(4,.var [.nilf,.nilf,.fn (.func 125) [] [.ptr 0 0,.ptr 1 0]]),(5,.var [.bool false,.bool x2,.i x3,.i x4,.i x5,.i (AN p.kind),.i (Aw p.kind),.i (AA p.kind)])]⟩))
    (M.W ID) ?_ ?_
   .exact qN
   .intro _;skip;refine M.w0 ?_;refine M.rt p.args.length
     (fun m=>([(3,.ptr 2 0),(4,.ptr 3 0),(5,.ptr 4 0),(6,.ptr 5 0),(70,.s .pf p.args),(71,.i p.args.length),(72,.i m)],⟨6,[(0,.var [.i a]),(1,.var [.i ((X1++((Pf.Bn (C3 a) y (AA p.kind) p.args).take m).flatten)).length]),(2,.var p.view),(3,.var [.i v,.i y]),(4,.var [.nilf,.nilf,.fn (.func 125) [] [.ptr 0 0,.ptr 1 0]]),(5,.var [.bool false,.bool x2,.i x3,.i x4,.i x5,.i (AN p.kind),.i (Aw p.kind),.i (AA p.kind)])]⟩))
     (M.W ID (he:=(by(repeat'(first|exact trivial|refine And.intro ?_ ?_|refine⟨_,U,_,U,_,U,?_⟩|exact Ap.refl _|exact Ap.of_eq lg));done))) ?_ ?_
    .intro m hm _;have hs2:=zc Pf.full (fA hm);have hb:=hpl m kn;have hc:=ih p.args[m] (if m+1=p.args.length then v+Aw p.kind else v) (if m+1=p.args.length then y+AA p.kind else y) (X1++((Pf.Bn (C3 a) y (AA p.kind) p.args).take m).flatten) kn kn kJ kJ (hpf _ (fA hm)) (i2 (hka kn) _ (fA hm)) oD;have e3:(X1++((Pf.Bn (C3 a) y (AA p.kind) p.args).take m).flatten)++p.args[m].DM (C3 a) (if m+1=p.args.length then y+AA p.kind else y)=(X1++((Pf.Bn (C3 a) y (AA p.kind) p.args).take (m+1)).flatten):=by rw[fK,MZ (C3 a) hm]
     rw[e3] at hc;have ev:(if(m:Int)=(x5:Int)-1 then y+AA p.kind else y)=(if m+1=p.args.length then y+AA p.kind else y):=by
      exact pS
     have ev2:(if(m:Int)=(x5:Int)-1 then v+Aw p.kind else v)=(if m+1=p.args.length then v+Aw p.kind else v):=by
      exact pS
     rw[ev,ev2] at hb;refine M.w2 @hb @hc ?_;exact⟨rfl,trivial,(M.W ID)⟩
    .exact qF
 .refine M.F Tryz.func105 ?_;refine M.w2 @hru @hlf ?_;refine M.rt p.terms.length
   (fun m=>([(3,.ptr 2 0),(4,.ptr 3 0),(5,.ptr 4 0),(6,.ptr 5 0),(33,.s .tm p.terms),(34,.i p.terms.length),(35,.i m)],⟨6,[(0,.var [.i a]),(1,.var [.i (X1).length]),(2,.var p.view),(3,.var [.i v,.i y]),(4,.var [.nilf,.nilf,.fn (.func 125) [] [.ptr 0 0,.ptr 1 0]]),(5,.var [.bool true,.bool x2,.i x3,.i x4,.i x5,.i (AN p.kind),.i (Aw p.kind),.i (AA p.kind)])]⟩))
   (M.W ID (he:=(by(repeat'(first|exact trivial|refine And.intro ?_ ?_|refine⟨_,U,_,U,_,U,?_⟩|exact Ap.refl _|exact Ap.of_eq (by simp[Ao.AH,hX1])));done))) ?_ ?_
  .exact qN
  .intro _;skip;refine M.w0 ?_;refine M.rt p.Ae.length
    (fun m=>([(3,.ptr 2 0),(4,.ptr 3 0),(5,.ptr 4 0),(6,.ptr 5 0),(50,.s .fm p.Ae),(51,.i p.Ae.length),(52,.i m)],⟨6,[(0,.var [.i a]),(1,.var [.i (X1).length]),(2,.var p.view),(3,.var [.i v,.i y]),(4,.var [.nilf,.nilf,.fn (.func 125) [] [.ptr 0 0,.ptr 1 0]]),(5,.var [.bool true,.bool x2,.i x3,.i x4,.i x5,.i (AN p.kind),.i (Aw p.kind),.i (AA p.kind)])]⟩))
    (M.W ID) ?_ ?_
   .exact qN
   .intro _;skip;refine M.w0 ?_;refine M.rt p.args.length
     (fun m=>([(3,.ptr 2 0),(4,.ptr 3 0),(5,.ptr 4 0),(6,.ptr 5 0),(70,.s .pf p.args),(71,.i p.args.length),(72,.i m)],⟨6,[(0,.var [.i a]),(1,.var [.i ((X1++((Pf.Bn (C3 a) y (AA p.kind) p.args).take m).flatten)).length]),(2,.var p.view),(3,.var [.i v,.i y]),(4,.var [.nilf,.nilf,.fn (.func 125) [] [.ptr 0 0,.ptr 1 0]]),(5,.var [.bool true,.bool x2,.i x3,.i x4,.i x5,.i (AN p.kind),.i (Aw p.kind),.i (AA p.kind)])]⟩))
     (M.W ID (he:=(by(repeat'(first|exact trivial|refine And.intro ?_ ?_|refine⟨_,U,_,U,_,U,?_⟩|exact Ap.refl _|exact Ap.of_eq lg));done))) ?_ ?_
    .intro m hm _;have hs2:=zc Pf.full (fA hm);have hb:=hpl m kn;have hc:=ih p.args[m] (if m+1=p.args.length then v+Aw p.kind else v) (if m+1=p.args.length then y+AA p.kind else y) (X1++((Pf.Bn (C3 a) y (AA p.kind) p.args).take m).flatten) kn kn kJ kJ (hpf _ (fA hm)) (i2 (hka kn) _ (fA hm)) oD;have e3:(X1++((Pf.Bn (C3 a) y (AA p.kind) p.args).take m).flatten)++p.args[m].DM (C3 a) (if m+1=p.args.length then y+AA p.kind else y)=(X1++((Pf.Bn (C3 a) y (AA p.kind) p.args).take (m+1)).flatten):=by rw[fK,MZ (C3 a) hm]
     rw[e3] at hc;have ev:(if(m:Int)=(x5:Int)-1 then y+AA p.kind else y)=(if m+1=p.args.length then y+AA p.kind else y):=by
      exact pS
     have ev2:(if(m:Int)=(x5:Int)-1 then v+Aw p.kind else v)=(if m+1=p.args.length then v+Aw p.kind else v):=by
      exact pS
     rw[ev,ev2] at hb;refine M.w2 @hb @hc ?_;exact⟨rfl,trivial,(M.W ID)⟩
    .exact qF
end Go.Ab
