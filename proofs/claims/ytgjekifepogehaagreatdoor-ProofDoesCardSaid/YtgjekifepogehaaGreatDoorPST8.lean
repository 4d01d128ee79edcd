/- A part of this seat's proofs. No conditions. -/
import Derived.Test.YtgjekifepogehaaGreatDoorPST7
namespace Go.Ab
open Go Go.Proofs
set_option maxRecDepth 100000
set_option maxHeartbeats 4000000
set_option linter.all false
theorem YR(n:Int)(b:Bool)(sz ti k:Int)(hs:0<=sz/\sz<=4096)(ht:0<=ti/\ti<=4096)(hk:1<=k/\k<=4096)(hn:0<=n/\n<=17000000000000000):
 AC E 115 [.ptr 0 0,.i sz,.i ti,.i k,.i 4096] ⟨1,[(0,.var [.i n,.bool b])]⟩ (.AM []) ⟨1,[(0,.var [.i (n+ti*(k-1)),.bool (b||decide (sz+ti*(k-1)>4096))])]⟩:=by
 have h3:0<=ti*(k-1):=cN ht.1 dY;have h4:ti*(k-1)<=4096*4095:=cO ht.2 dY dY dY;have hm': -9223372036854775808<=ti*(k-1)/\ti*(k-1)<=9223372036854775807:=dY
 cases b;all_goals
  refine M.F Tryz.func115 ?_;refine M.w0 ?_
  (exact M.n2 Ay (h8:=(by simp[zh,V.wk,V.An,za,Ty.view,Tm.view,Bool.true_or,Bool.false_or])))
theorem U3(a k n0:Int)(ha:0<=a/\a<=4096)(hk:1<=k/\k<=4096)(hn0:0<=n0/\n0<=1000000)(Xs:List (Int×Int))(t:Tm)(bl:Int)(he:t.err=0)(hb:0<=bl/\bl<100000000000)(hix:∀p∈t.vars 0,0<=p.1/\p.1<1099511627776)(hg:DA (Xs++[A6 a bl t])):
 AC E 113 [.agg t.view,.i bl,.ptr 0 0,.ptr 1 0,.ptr 2 0] ⟨4,[(0,.var [.ptr 3 0]),(1,.var [.i a]),(2,.var [.i k]),(3,.var [.i (Di n0 k Xs),.bool (DQ k Xs)])]⟩ (.AM [])
  ⟨4,[(0,.var [.ptr 3 0]),(1,.var [.i a]),(2,.var [.i k]),(3,.var [.i (Di n0 k (Xs++[A6 a bl t])),.bool (DQ k (Xs++[A6 a bl t]))])]⟩:=by
 have hf:=yd he;have h1:=PV t dY;rw[he,show t.num=t.size by unfold Tm.num;rw[if_pos he]] at h1;have h2:=VH t (a+bl) dY hix;have hx:=(hg.1 (A6 a bl t) dZ);have hp:=DA.pre (List.prefix_append Xs [A6 a bl t]) hg;have hbd:=SU (n:=n0) hk hn0 hp;have hl:=hp.2;rw[Wf,Zg];simp only[A6] at hx ⊢;have h3:=YR (Di n0 k Xs) (DQ k Xs) t.size (cnt (a+bl) (t.vars 0)) k hx.1 hx.2 hk dY;obtain⟨N0,e1⟩:∃x,x=Di n0 k Xs:=⟨_,rfl⟩;obtain⟨B0,e2⟩:∃x,x=DQ k Xs:=⟨_,rfl⟩;rw[<-e1,<-e2] at h3;rw[<-e1,<-e2];clear e1 e2 hbd hp hg hx hl;refine M.F Tryz.func113 ?_;(repeat' first|refine M.w2 @h1 @h2 ?_|refine M.cb (h3) [3] 0 ?_|fail)
 (exact M.n2 EV (h8:=jQ))
theorem WW(a k n0:Int)(ha:0<=a/\a<=4096)(hk:1<=k/\k<=4096)(hn0:0<=n0/\n0<=1000000)(Xs:List (Int×Int))(t:Fm)(bl:Int)(he:t.err=0)(hb:0<=bl/\bl<100000000000)(hix:∀p∈t.AZ 0,∀q∈p.1.vars 0,0<=q.1/\q.1<1099511627776)(hg:DA (Xs++[A8 a bl t])):
 AC E 117 [.agg t.view,.i bl,.ptr 0 0,.ptr 1 0,.ptr 2 0] ⟨4,[(0,.var [.ptr 3 0]),(1,.var [.i a]),(2,.var [.i k]),(3,.var [.i (Di n0 k Xs),.bool (DQ k Xs)])]⟩ (.AM [])
  ⟨4,[(0,.var [.ptr 3 0]),(1,.var [.i a]),(2,.var [.i k]),(3,.var [.i (Di n0 k (Xs++[A8 a bl t])),.bool (DQ k (Xs++[A8 a bl t]))])]⟩:=by
 have hf:=yw he;have h1:=Rf t dY;rw[he,show t.num=t.size by unfold Fm.num;rw[if_pos he]] at h1;have h2:=Zvy t (a+bl) dY dY hix;have hx:=(hg.1 (A8 a bl t) dZ);have hp:=DA.pre (List.prefix_append Xs [A8 a bl t]) hg;have hbd:=SU (n:=n0) hk hn0 hp;have hl:=hp.2;rw[Wf,Zg];simp only[A8] at hx ⊢;have h3:=YR (Di n0 k Xs) (DQ k Xs) t.size (ug (a+bl) (t.AZ 0)) k hx.1 hx.2 hk dY;obtain⟨N0,e1⟩:∃x,x=Di n0 k Xs:=⟨_,rfl⟩;obtain⟨B0,e2⟩:∃x,x=DQ k Xs:=⟨_,rfl⟩;rw[<-e1,<-e2] at h3;rw[<-e1,<-e2];clear e1 e2 hbd hp hg hx hl;refine M.F Tryz.func117 ?_;(repeat' first|refine M.w2 @h1 @h2 ?_|refine M.cb (h3) [3] 0 ?_|fail)
 (exact M.n2 EV (h8:=jQ))
theorem Yio(a k n0:Int)(ha:0<=a/\a<=4096)(hk:1<=k/\k<=4096)(hn0:0<=n0/\n0<=1000000):∀(n:Nat) (p:Pf) (v y:Int) (Xs:List (Int×Int)),p.full<=n->n<10000000000->(0<=v/\v+2*n<=50000000000)->(0<=y/\y+2*n<=50000000000)->p.nd->p.ix 1099511627776->p.shape=true->p.small=true->DA (Xs++p.CE (A6 a) (A8 a) v)->
 AC E 112 [.agg p.view,.agg [.i v,.i y],.agg [.fn (.func 113) [] [.ptr 0 0,.ptr 1 0,.ptr 2 0],.fn (.func 117) [] [.ptr 0 0,.ptr 1 0,.ptr 2 0],.nilf]] ⟨4,[(0,.var [.ptr 3 0]),(1,.var [.i a]),(2,.var [.i k]),(3,.var [.i (Di n0 k Xs),.bool (DQ k Xs)])]⟩ (.AM []) ⟨4,[(0,.var [.ptr 3 0]),(1,.var [.i a]),(2,.var [.i k]),(3,.var [.i (Di n0 k (Xs++p.CE (A6 a) (A8 a) v)),.bool (DQ k (Xs++p.CE (A6 a) (A8 a) v))])]⟩:=by
 intro n;induction n with
 |zero=>intro p v y Xs hz;have:=p.Ac;omega
 |succ n ih=>
 intro p v y Xs hz hn hv hh hs hix hsh hsm hg;obtain⟨i1,i2,i3⟩:=(Pf.Bq _ p).1 hix;obtain⟨s1,s2,s3⟩:=wq hsm;obtain⟨_,s4,s5,s6⟩:=zk hsh;have te:∀t∈p.terms,t.err=0:=fun t h=>(Tm.Ad t).2 ⟨s4 t h,s1 t h⟩;have fe:∀t∈p.Aa,t.err=0:=fun t h=>(Fm.Ad t).2 ⟨s5 t h,s2 t h⟩;have hg0:=hg;rw[p.BN (A6 a) (A8 a) v] at hg;have hre:=p.BN (A6 a) (A8 a) v;have hsz':=p.Af;have hlen:=zd Pf.full Pf.Ac p.args;have hlen1:=zd Fm.full Fm.Ac p.Aa;have hlen2:=zd Tm.full Tm.Ac p.terms;have hru:=vg p.kind;obtain⟨⟨nd,n1,n4⟩,hpf⟩:=(Pf.Bt p).1 hs;have hal:p.args.length<=2:=by
  exact j7
 have hpl:=fun(m:Nat) (hm:m<=1000000)=>xf p.kind v y nd n1 m hm dY dY;have e2:Dq p.kind=[.bool nd.index,.bool nd.typ,.i nd.terms,.i nd.Aa,.i nd.args,.i (Au p.kind),.i (Ap p.kind),.i (Ar p.kind)]:=fk
 have b1:0<=Ap p.kind/\Ap p.kind<=2:=eT
 have b2:0<=Ar p.kind/\Ar p.kind<=1:=eV
 have b3:0<=Au p.kind/\Au p.kind<=1:=eW
 rw[n1] at hru;simp only[an] at hru;rw[e2] at hru;simp only[e2] at hpl;clear n1 e2;obtain⟨x3,x4,x5,ix,x2⟩:=nd;simp only at n4 hru hpl;cases ix
 .refine M.F Tryz.func112 ?_;refine M.w1 @hru ?_;refine M.rt p.terms.length
   (fun m=>([(3,.ptr 4 0),(4,.ptr 5 0),(5,.ptr 6 0),(6,.ptr 7 0),(33,.s .tm p.terms),(34,.i p.terms.length),(35,.i m)],⟨8,[(0,.var [.ptr 3 0]),(1,.var [.i a]),(2,.var [.i k]),(3,.var [.i (Di n0 k (Xs++(p.terms.take m).map ((A6 a) v))),.bool (DQ k (Xs++(p.terms.take m).map ((A6 a) v)))]),(4,.var p.view),(5,.var [.i v,.i y]),(6,.var [.fn (.func 113) [] [.ptr 0 0,.ptr 1 0,.ptr 2 0],.fn (.func 117) [] [.ptr 0 0,.ptr 1 0,.ptr 2 0],.nilf]),(7,.var [.bool false,.bool x2,.i x3,.i x4,.i x5,.i (Au p.kind),.i (Ap p.kind),.i (Ar p.kind)])]⟩))
   (M.W HS (he:=(by(repeat'(first|exact trivial|refine And.intro ?_ ?_|refine⟨_,U,_,U,_,U,?_⟩|exact Ai.refl _|exact Ai.of_eq fO));done))) ?_ ?_
  .exact kg
  .intro _;simp only[ZF];refine M.w0 ?_;refine M.rt p.Aa.length
    (fun m=>([(3,.ptr 4 0),(4,.ptr 5 0),(5,.ptr 6 0),(6,.ptr 7 0),(50,.s .fm p.Aa),(51,.i p.Aa.length),(52,.i m)],⟨8,[(0,.var [.ptr 3 0]),(1,.var [.i a]),(2,.var [.i k]),(3,.var [.i (Di n0 k (Xs++p.terms.map ((A6 a) v)++(p.Aa.take m).map ((A8 a) (v+Au p.kind)))),.bool (DQ k (Xs++p.terms.map ((A6 a) v)++(p.Aa.take m).map ((A8 a) (v+Au p.kind))))]),(4,.var p.view),(5,.var [.i v,.i y]),(6,.var [.fn (.func 113) [] [.ptr 0 0,.ptr 1 0,.ptr 2 0],.fn (.func 117) [] [.ptr 0 0,.ptr 1 0,.ptr 2 0],.nilf]),(7,.var [.bool false,.bool x2,.i x3,.i x4,.i x5,.i (Au p.kind),.i (Ap p.kind),.i (Ar p.kind)])]⟩))
    (M.W HS (he:=(by(repeat'(first|exact trivial|refine And.intro ?_ ?_|refine⟨_,U,_,U,_,U,?_⟩|exact Ai.refl _|exact Ai.of_eq fO));done))) ?_ ?_
   .exact ke
   .intro _;simp only[ZF];refine M.w0 ?_;refine M.rt p.args.length
     (fun m=>([(3,.ptr 4 0),(4,.ptr 5 0),(5,.ptr 6 0),(6,.ptr 7 0),(70,.s .pf p.args),(71,.i p.args.length),(72,.i m)],⟨8,[(0,.var [.ptr 3 0]),(1,.var [.i a]),(2,.var [.i k]),(3,.var [.i (Di n0 k (Xs++p.terms.map ((A6 a) v)++p.Aa.map ((A8 a) (v+Au p.kind))++((Pf.AN (A6 a) (A8 a) v (Ap p.kind) p.args).take m).flatten)),.bool (DQ k (Xs++p.terms.map ((A6 a) v)++p.Aa.map ((A8 a) (v+Au p.kind))++((Pf.AN (A6 a) (A8 a) v (Ap p.kind) p.args).take m).flatten))]),(4,.var p.view),(5,.var [.i v,.i y]),(6,.var [.fn (.func 113) [] [.ptr 0 0,.ptr 1 0,.ptr 2 0],.fn (.func 117) [] [.ptr 0 0,.ptr 1 0,.ptr 2 0],.nilf]),(7,.var [.bool false,.bool x2,.i x3,.i x4,.i x5,.i (Au p.kind),.i (Ap p.kind),.i (Ar p.kind)])]⟩))
     (M.W HS (he:=(by(repeat'(first|exact trivial|refine And.intro ?_ ?_|refine⟨_,U,_,U,_,U,?_⟩|exact Ai.refl _|exact Ai.of_eq fP));done))) ?_ ?_
    .intro m hm _;have hs2:=zc Pf.full (ZA hm);have hb:=hpl m dY;have hc:=ih p.args[m] (if m+1=p.args.length then v+Ap p.kind else v) (if m+1=p.args.length then y+Ar p.kind else y) (Xs++p.terms.map ((A6 a) v)++p.Aa.map ((A8 a) (v+Au p.kind))++((Pf.AN (A6 a) (A8 a) v (Ap p.kind) p.args).take m).flatten) dY dY ez ez (hpf _ (ZA hm)) (i3 _ (ZA hm)) (s6 _ (ZA hm)) (s3 _ (ZA hm)) (DA.pre jh hg);have e3:(Xs++p.terms.map ((A6 a) v)++p.Aa.map ((A8 a) (v+Au p.kind))++((Pf.AN (A6 a) (A8 a) v (Ap p.kind) p.args).take m).flatten)++p.args[m].CE (A6 a) (A8 a) (if m+1=p.args.length then v+Ap p.kind else v)=(Xs++p.terms.map ((A6 a) v)++p.Aa.map ((A8 a) (v+Au p.kind))++((Pf.AN (A6 a) (A8 a) v (Ap p.kind) p.args).take (m+1)).flatten):=by rw[ZE,KP (A6 a) (A8 a) hm]
     rw[e3] at hc;have ev:(if(m:Int)=(x5:Int)-1 then y+Ar p.kind else y)=(if m+1=p.args.length then y+Ar p.kind else y):=by
      exact jZ
     have ev2:(if(m:Int)=(x5:Int)-1 then v+Ap p.kind else v)=(if m+1=p.args.length then v+Ap p.kind else v):=by
      exact jZ
     rw[ev,ev2] at hb;(repeat' first|refine M.w1 @hb ?_|refine M.cv (hc) [0,1,2,3] 0 ?_|fail);exact⟨rfl,trivial,(M.W HS)⟩
    .exact kZ
 .refine M.F Tryz.func112 ?_;refine M.w1 @hru ?_;refine M.rt p.terms.length
   (fun m=>([(3,.ptr 4 0),(4,.ptr 5 0),(5,.ptr 6 0),(6,.ptr 7 0),(33,.s .tm p.terms),(34,.i p.terms.length),(35,.i m)],⟨8,[(0,.var [.ptr 3 0]),(1,.var [.i a]),(2,.var [.i k]),(3,.var [.i (Di n0 k (Xs++(p.terms.take m).map ((A6 a) v))),.bool (DQ k (Xs++(p.terms.take m).map ((A6 a) v)))]),(4,.var p.view),(5,.var [.i v,.i y]),(6,.var [.fn (.func 113) [] [.ptr 0 0,.ptr 1 0,.ptr 2 0],.fn (.func 117) [] [.ptr 0 0,.ptr 1 0,.ptr 2 0],.nilf]),(7,.var [.bool true,.bool x2,.i x3,.i x4,.i x5,.i (Au p.kind),.i (Ap p.kind),.i (Ar p.kind)])]⟩))
   (M.W HS (he:=(by(repeat'(first|exact trivial|refine And.intro ?_ ?_|refine⟨_,U,_,U,_,U,?_⟩|exact Ai.refl _|exact Ai.of_eq fO));done))) ?_ ?_
  .exact kg
  .intro _;simp only[ZF];refine M.w0 ?_;refine M.rt p.Aa.length
    (fun m=>([(3,.ptr 4 0),(4,.ptr 5 0),(5,.ptr 6 0),(6,.ptr 7 0),(50,.s .fm p.Aa),(51,.i p.Aa.length),(52,.i m)],⟨8,[(0,.var [.ptr 3 0]),(1,.var [.i a]),(2,.var [.i k]),(3,.var [.i (Di n0 k (Xs++p.terms.map ((A6 a) v)++(p.Aa.take m).map ((A8 a) (v+Au p.kind)))),.bool (DQ k (Xs++p.terms.map ((A6 a) v)++(p.Aa.take m).map ((A8 a) (v+Au p.kind))))]),(4,.var p.view),(5,.var [.i v,.i y]),(6,.var [.fn (.func 113) [] [.ptr 0 0,.ptr 1 0,.ptr 2 0],.fn (.func 117) [] [.ptr 0 0,.ptr 1 0,.ptr 2 0],.nilf]),(7,.var [.bool true,.bool x2,.i x3,.i x4,.i x5,.i (Au p.kind),.i (Ap p.kind),.i (Ar p.kind)])]⟩))
    (M.W HS (he:=(by(repeat'(first|exact trivial|refine And.intro ?_ ?_|refine⟨_,U,_,U,_,U,?_⟩|exact Ai.refl _|exact Ai.of_eq fO));done))) ?_ ?_
   .exact ke
   .intro _;simp only[ZF];refine M.w0 ?_;refine M.rt p.args.length
     (fun m=>([(3,.ptr 4 0),(4,.ptr 5 0),(5,.ptr 6 0),(6,.ptr 7 0),(70,.s .pf p.args),(71,.i p.args.length),(72,.i m)],⟨8,[(0,.var [.ptr 3 0]),(1,.var [.i a]),(2,.var [.i k]),(3,.var [.i (Di n0 k (Xs++p.terms.map ((A6 a) v)++p.Aa.map ((A8 a) (v+Au p.kind))++((Pf.AN (A6 a) (A8 a) v (Ap p.kind) p.args).take m).flatten)),.bool (DQ k (Xs++p.terms.map ((A6 a) v)++p.Aa.map ((A8 a) (v+Au p.kind))++((Pf.AN (A6 a) (A8 a) v (Ap p.kind) p.args).take m).flatten))]),(4,.var p.view),(5,.var [.i v,.i y]),(6,.var [.fn (.func 113) [] [.ptr 0 0,.ptr 1 0,.ptr 2 0],.fn (.func 117) [] [.ptr 0 0,.ptr 1 0,.ptr 2 0],.nilf]),(7,.var [.bool true,.bool x2,.i x3,.i x4,.i x5,.i (Au p.kind),.i (Ap p.kind),.i (Ar p.kind)])]⟩))
     (M.W HS (he:=(by(repeat'(first|exact trivial|refine And.intro ?_ ?_|refine⟨_,U,_,U,_,U,?_⟩|exact Ai.refl _|exact Ai.of_eq fP));done))) ?_ ?_
    .intro m hm _;have hs2:=zc Pf.full (ZA hm);have hb:=hpl m dY;have hc:=ih p.args[m] (if m+1=p.args.length then v+Ap p.kind else v) (if m+1=p.args.length then y+Ar p.kind else y) (Xs++p.terms.map ((A6 a) v)++p.Aa.map ((A8 a) (v+Au p.kind))++((Pf.AN (A6 a) (A8 a) v (Ap p.kind) p.args).take m).flatten) dY dY ez ez (hpf _ (ZA hm)) (i3 _ (ZA hm)) (s6 _ (ZA hm)) (s3 _ (ZA hm)) (DA.pre jh hg);have e3:(Xs++p.terms.map ((A6 a) v)++p.Aa.map ((A8 a) (v+Au p.kind))++((Pf.AN (A6 a) (A8 a) v (Ap p.kind) p.args).take m).flatten)++p.args[m].CE (A6 a) (A8 a) (if m+1=p.args.length then v+Ap p.kind else v)=(Xs++p.terms.map ((A6 a) v)++p.Aa.map ((A8 a) (v+Au p.kind))++((Pf.AN (A6 a) (A8 a) v (Ap p.kind) p.args).take (m+1)).flatten):=by rw[ZE,KP (A6 a) (A8 a) hm]
     rw[e3] at hc;have ev:(if(m:Int)=(x5:Int)-1 then y+Ar p.kind else y)=(if m+1=p.args.length then y+Ar p.kind else y):=by
      exact jZ
     have ev2:(if(m:Int)=(x5:Int)-1 then v+Ap p.kind else v)=(if m+1=p.args.length then v+Ap p.kind else v):=by
      exact jZ
     rw[ev,ev2] at hb;(repeat' first|refine M.w1 @hb ?_|refine M.cv (hc) [0,1,2,3] 0 ?_|fail);exact⟨rfl,trivial,(M.W HS)⟩
    .exact kZ
theorem TQ(Xs:List Bool)(p:Pf)(v y:Int):AC E 175 [.agg p.view,.agg [.i v,.i y],.ptr 0 0] ⟨1,[(0,.var [.bool (Xs.all id)])]⟩ (.AM []) ⟨1,[(0,.var [.bool ((Xs++DK p.kind p.index y).all id)])]⟩:=by
 rw[Z6];generalize Xs.all id=b;unfold DK;by_cases h1:p.kind=1
 .rw[if_pos h1];cases b;all_goals
   refine M.F Tryz.func175 ?_;(repeat' first|refine M.w0 ?_|refine M.gs ?_ ?_<;>intro h|fail);all_goals first|exfalso;simp at h;exact absurd h1 h|exfalso;simp_all;done|exact M.n2 Ay (h6:=(by(repeat'(first|exact trivial|refine And.intro ?_ ?_|refine⟨_,U,_,U,_,U,?_⟩|exact Ai.refl _|exact Ai.of_eq (by simp[Aj.Aw,aH,bE,h1])));done)) (h8:=jz)
 .rw[if_neg h1];cases b;all_goals
   refine M.F Tryz.func175 ?_;(repeat' first|refine M.w0 ?_|refine M.gs ?_ ?_<;>intro h|fail);all_goals first|exfalso;simp at h;exact absurd h h1|exfalso;simp_all;done|exact M.n2 Ay (h8:=jz)
theorem Yjn:∀(n:Nat) (p:Pf) (v y:Int) (Xs:List Bool),p.full<=n->n<10000000000->(0<=v/\v+2*n<=50000000000)->(0<=y/\y+2*n<=50000000000)->p.nd->
 AC E 112 [.agg p.view,.agg [.i v,.i y],.agg [.nilf,.nilf,.fn (.func 175) [] [.ptr 0 0]]] ⟨1,[(0,.var [.bool (Xs.all id)])]⟩ (.AM []) ⟨1,[(0,.var [.bool ((Xs++p.B8 (DK) y).all id)])]⟩:=by
 intro n;induction n with
 |zero=>intro p v y Xs hz;have:=p.Ac;omega
 |succ n ih=>
 intro p v y Xs hz hn hv hh hs;have hre:=p.BE (DK) y;have hsz':=p.Af;have hlen:=zd Pf.full Pf.Ac p.args;have hlen1:=zd Fm.full Fm.Ac p.Aa;have hlen2:=zd Tm.full Tm.Ac p.terms;have hru:=vg p.kind;obtain⟨⟨nd,n1,n4⟩,hpf⟩:=(Pf.Bt p).1 hs;have hal:p.args.length<=2:=by
  exact j7
 have hpl:=fun(m:Nat) (hm:m<=1000000)=>xf p.kind v y nd n1 m hm dY dY;have e2:Dq p.kind=[.bool nd.index,.bool nd.typ,.i nd.terms,.i nd.Aa,.i nd.args,.i (Au p.kind),.i (Ap p.kind),.i (Ar p.kind)]:=fk
 have b1:0<=Ap p.kind/\Ap p.kind<=2:=eT
 have b2:0<=Ar p.kind/\Ar p.kind<=1:=eV
 have b3:0<=Au p.kind/\Au p.kind<=1:=eW
 rw[n1] at hru;simp only[an] at hru;rw[e2] at hru;simp only[e2] at hpl;have hlf:=TQ Xs p v y;have hno:nd.index=false->(DK) p.kind p.index y=[]:=fun hi=>by
  exact mU
 obtain⟨X1,hX1⟩:∃X1,X1=Xs++(DK) p.kind p.index y:=⟨_,rfl⟩;obtain⟨x3,x4,x5,ix,x2⟩:=nd;simp only at n4 hru hpl hno;cases ix
 .have hX:X1=Xs:=ic
  refine M.F Tryz.func112 ?_;refine M.w1 @hru ?_;refine M.rt p.terms.length
   (fun m=>([(3,.ptr 1 0),(4,.ptr 2 0),(5,.ptr 3 0),(6,.ptr 4 0),(33,.s .tm p.terms),(34,.i p.terms.length),(35,.i m)],⟨5,[(0,.var [.bool (X1.all id)]),(1,.var p.view),(2,.var [.i v,.i y]),(3,.var [.nilf,.nilf,.fn (.func 175) [] [.ptr 0 0]]),(4,.var [.bool false,.bool x2,.i x3,.i x4,.i x5,.i (Au p.kind),.i (Ap p.kind),.i (Ar p.kind)])]⟩))
   (M.W DT (he:=(by(repeat'(first|exact trivial|refine And.intro ?_ ?_|refine⟨_,U,_,U,_,U,?_⟩|exact Ai.refl _|exact Ai.of_eq (by simp[Aj.Aw,hX])));done))) ?_ ?_
  .exact lH
  .intro _;skip;refine M.w0 ?_;refine M.rt p.Aa.length
    (fun m=>([(3,.ptr 1 0),(4,.ptr 2 0),(5,.ptr 3 0),(6,.ptr 4 0),(50,.s .fm p.Aa),(51,.i p.Aa.length),(52,.i m)],⟨5,[(0,.var [.bool (X1.all id)]),(1,.var p.view),(2,.var [.i v,.i y]),(3,.var [.nilf,.nilf,.fn (.func 175) [] [.ptr 0 0]]),(4,.var [.bool false,.bool x2,.i x3,.i x4,.i x5,.i (Au p.kind),.i (Ap p.kind),.i (Ar p.kind)])]⟩))
    (M.W DT) ?_ ?_
   .exact lH
   .intro _;skip;refine M.w0 ?_;refine M.rt p.args.length
     (fun m=>([(3,.ptr 1 0),(4,.ptr 2 0),(5,.ptr 3 0),(6,.ptr 4 0),(70,.s .pf p.args),(71,.i p.args.length),(72,.i m)],⟨5,[(0,.var [.bool ((X1++((Pf.AO (DK) y (Ar p.kind) p.args).take m).flatten).all id)]),(1,.var p.view),(2,.var [.i v,.i y]),(3,.var [.nilf,.nilf,.fn (.func 175) [] [.ptr 0 0]]),(4,.var [.bool false,.bool x2,.i x3,.i x4,.i x5,.i (Au p.kind),.i (Ap p.kind),.i (Ar p.kind)])]⟩))
     (M.W DT (he:=(by(repeat'(first|exact trivial|refine And.intro ?_ ?_|refine⟨_,U,_,U,_,U,?_⟩|exact Ai.refl _|exact Ai.of_eq fP));done))) ?_ ?_
    .intro m hm _;have hs2:=zc Pf.full (ZA hm);have hb:=hpl m dY;have hc:=ih p.args[m] (if m+1=p.args.length then v+Ap p.kind else v) (if m+1=p.args.length then y+Ar p.kind else y) (X1++((Pf.AO (DK) y (Ar p.kind) p.args).take m).flatten) dY dY ez ez (hpf _ (ZA hm));have e3:(X1++((Pf.AO (DK) y (Ar p.kind) p.args).take m).flatten)++p.args[m].B8 (DK) (if m+1=p.args.length then y+Ar p.kind else y)=(X1++((Pf.AO (DK) y (Ar p.kind) p.args).take (m+1)).flatten):=by rw[ZE,ue (DK) hm]
     rw[e3] at hc;have ev:(if(m:Int)=(x5:Int)-1 then y+Ar p.kind else y)=(if m+1=p.args.length then y+Ar p.kind else y):=by
      exact jZ
     have ev2:(if(m:Int)=(x5:Int)-1 then v+Ap p.kind else v)=(if m+1=p.args.length then v+Ap p.kind else v):=by
      exact jZ
     rw[ev,ev2] at hb;(repeat' first|refine M.w1 @hb ?_|refine M.cv (hc) [0] 0 ?_|fail);exact⟨rfl,trivial,(M.W DT)⟩
    .exact lz
 .refine M.F Tryz.func112 ?_;(repeat' first|refine M.w1 @hru ?_|refine M.cv (hlf) [0] 0 ?_|fail);refine M.rt p.terms.length
   (fun m=>([(3,.ptr 1 0),(4,.ptr 2 0),(5,.ptr 3 0),(6,.ptr 4 0),(33,.s .tm p.terms),(34,.i p.terms.length),(35,.i m)],⟨5,[(0,.var [.bool (X1.all id)]),(1,.var p.view),(2,.var [.i v,.i y]),(3,.var [.nilf,.nilf,.fn (.func 175) [] [.ptr 0 0]]),(4,.var [.bool true,.bool x2,.i x3,.i x4,.i x5,.i (Au p.kind),.i (Ap p.kind),.i (Ar p.kind)])]⟩))
   (M.W DT (he:=(by(repeat'(first|exact trivial|refine And.intro ?_ ?_|refine⟨_,U,_,U,_,U,?_⟩|exact Ai.refl _|exact Ai.of_eq (by simp[Aj.Aw,hX1])));done))) ?_ ?_
  .exact lH
  .intro _;skip;refine M.w0 ?_;refine M.rt p.Aa.length
    (fun m=>([(3,.ptr 1 0),(4,.ptr 2 0),(5,.ptr 3 0),(6,.ptr 4 0),(50,.s .fm p.Aa),(51,.i p.Aa.length),(52,.i m)],⟨5,[(0,.var [.bool (X1.all id)]),(1,.var p.view),(2,.var [.i v,.i y]),(3,.var [.nilf,.nilf,.fn (.func 175) [] [.ptr 0 0]]),(4,.var [.bool true,.bool x2,.i x3,.i x4,.i x5,.i (Au p.kind),.i (Ap p.kind),.i (Ar p.kind)])]⟩))
    (M.W DT) ?_ ?_
   .exact lH
   .intro _;skip;refine M.w0 ?_;refine M.rt p.args.length
     (fun m=>([(3,.ptr 1 0),(4,.ptr 2 0),(5,.ptr 3 0),(6,.ptr 4 0),(70,.s .pf p.args),(71,.i p.args.length),(72,.i m)],⟨5,[(0,.var [.bool ((X1++((Pf.AO (DK) y (Ar p.kind) p.args).take m).flatten).all id)]),(1,.var p.view),(2,.var [.i v,.i y]),(3,.var [.nilf,.nilf,.fn (.func 175) [] [.ptr 0 0]]),(4,.var [.bool true,.bool x2,.i x3,.i x4,.i x5,.i (Au p.kind),.i (Ap p.kind),.i (Ar p.kind)])]⟩))
     (M.W DT (he:=(by(repeat'(first|exact trivial|refine And.intro ?_ ?_|refine⟨_,U,_,U,_,U,?_⟩|exact Ai.refl _|exact Ai.of_eq fP));done))) ?_ ?_
    .intro m hm _;have hs2:=zc Pf.full (ZA hm);have hb:=hpl m dY;have hc:=ih p.args[m] (if m+1=p.args.length then v+Ap p.kind else v) (if m+1=p.args.length then y+Ar p.kind else y) (X1++((Pf.AO (DK) y (Ar p.kind) p.args).take m).flatten) dY dY ez ez (hpf _ (ZA hm));have e3:(X1++((Pf.AO (DK) y (Ar p.kind) p.args).take m).flatten)++p.args[m].B8 (DK) (if m+1=p.args.length then y+Ar p.kind else y)=(X1++((Pf.AO (DK) y (Ar p.kind) p.args).take (m+1)).flatten):=by rw[ZE,ue (DK) hm]
     rw[e3] at hc;have ev:(if(m:Int)=(x5:Int)-1 then y+Ar p.kind else y)=(if m+1=p.args.length then y+Ar p.kind else y):=by
      exact jZ
     have ev2:(if(m:Int)=(x5:Int)-1 then v+Ap p.kind else v)=(if m+1=p.args.length then v+Ap p.kind else v):=by
      exact jZ
     rw[ev,ev2] at hb;(repeat' first|refine M.w1 @hb ?_|refine M.cv (hc) [0] 0 ?_|fail);exact⟨rfl,trivial,(M.W DT)⟩
    .exact lz
theorem RZ(a:Int)(Xs:List Int)(p:Pf)(v y:Int)(hp:p.kind=1->0<=p.index/\p.index<9223372036854775808)(hy:0<=y/\y<100000000000)(hl:Xs.length<=2000000000):
 AC E 192 [.agg p.view,.agg [.i v,.i y],.ptr 0 0,.ptr 1 0] ⟨2,[(0,.var [.i a]),(1,.var [.i Xs.length])]⟩ (.AM []) ⟨2,[(0,.var [.i a]),(1,.var [.i (Xs++Cs a p.kind p.index y).length])]⟩:=by
 rw[ZR];unfold Cs;by_cases h0:p.kind=1;case neg=>
  rw[if_neg (fun h=>h0 h.1)];refine M.F Tryz.func192 ?_;(repeat' first|refine M.w0 ?_|refine M.gs ?_ ?_<;>intro h|refine M.cs ?_ ?_<;>intro h|fail);all_goals first|exfalso;simp_all;done|exact M.n2 AQ (h8:=jR)
 have hp:=hp h0;by_cases h1:p.kind=1/\p.index-y=a
 .rw[if_pos h1];refine M.F Tryz.func192 ?_;(repeat' first|refine M.w0 ?_|refine M.gs ?_ ?_<;>intro h|refine M.cs ?_ ?_<;>intro h|fail);all_goals first|exfalso;simp_all;done|exact M.n2 AQ (h8:=(by simp[zh,V.wk,V.An,za,Ty.view,Tm.view,ZO,Z7]))
 .rw[if_neg h1];refine M.F Tryz.func192 ?_;(repeat' first|refine M.w0 ?_|refine M.gs ?_ ?_<;>intro h|refine M.cs ?_ ?_<;>intro h|fail);all_goals first|exfalso;apply h1;simp_all;done|exfalso;simp_all;done|exact M.n2 AQ (h8:=jR)
theorem Yhg(a:Int):∀(n:Nat) (p:Pf) (v y:Int) (Xs:List Int),p.full<=n->n<10000000000->(0<=v/\v+2*n<=50000000000)->(0<=y/\y+2*n<=50000000000)->p.nd->p.hx 9223372036854775808->(Xs++p.B8 (Cs a) y).length<=2000000000->
 AC E 112 [.agg p.view,.agg [.i v,.i y],.agg [.nilf,.nilf,.fn (.func 192) [] [.ptr 0 0,.ptr 1 0]]] ⟨2,[(0,.var [.i a]),(1,.var [.i (Xs).length])]⟩ (.AM []) ⟨2,[(0,.var [.i a]),(1,.var [.i ((Xs++p.B8 (Cs a) y)).length])]⟩:=by
 intro n;induction n with
 |zero=>intro p v y Xs hz;have:=p.Ac;omega
 |succ n ih=>
 intro p v y Xs hz hn hv hh hs hhx hxl;obtain⟨i1,i2⟩:=(Pf.Br _ p).1 hhx;have hka:0<p.args.length->p.kind≠1:=fun h0 e=>by
  exact l7
 have hxl2:=hxl;rw[p.BE (Cs a) y,<-ZE] at hxl2;have hre:=p.BE (Cs a) y;have hsz':=p.Af;have hlen:=zd Pf.full Pf.Ac p.args;have hlen1:=zd Fm.full Fm.Ac p.Aa;have hlen2:=zd Tm.full Tm.Ac p.terms;have hru:=vg p.kind;obtain⟨⟨nd,n1,n4⟩,hpf⟩:=(Pf.Bt p).1 hs;have hal:p.args.length<=2:=by
  exact j7
 have hpl:=fun(m:Nat) (hm:m<=1000000)=>xf p.kind v y nd n1 m hm dY dY;have e2:Dq p.kind=[.bool nd.index,.bool nd.typ,.i nd.terms,.i nd.Aa,.i nd.args,.i (Au p.kind),.i (Ap p.kind),.i (Ar p.kind)]:=fk
 have b1:0<=Ap p.kind/\Ap p.kind<=2:=eT
 have b2:0<=Ar p.kind/\Ar p.kind<=1:=eV
 have b3:0<=Au p.kind/\Au p.kind<=1:=eW
 rw[n1] at hru;simp only[an] at hru;rw[e2] at hru;simp only[e2] at hpl;have hlf:=RZ a Xs p v y i1 dY (by rw[ZR] at hxl;omega);have hno:nd.index=false->(Cs a) p.kind p.index y=[]:=fun hi=>by
  exact mU
 obtain⟨X1,hX1⟩:∃X1,X1=Xs++(Cs a) p.kind p.index y:=⟨_,rfl⟩;obtain⟨x3,x4,x5,ix,x2⟩:=nd;simp only at n4 hru hpl hno;cases ix
 .have hX:X1=Xs:=ic
  refine M.F Tryz.func112 ?_;refine M.w1 @hru ?_;refine M.rt p.terms.length
   (fun m=>([(3,.ptr 2 0),(4,.ptr 3 0),(5,.ptr 4 0),(6,.ptr 5 0),(33,.s .tm p.terms),(34,.i p.terms.length),(35,.i m)],⟨6,[(0,.var [.i a]),(1,.var [.i (X1).length]),(2,.var p.view),(3,.var [.i v,.i y]),(4,.var [.nilf,.nilf,.fn (.func 192) [] [.ptr 0 0,.ptr 1 0]]),(5,.var [.bool false,.bool x2,.i x3,.i x4,.i x5,.i (Au p.kind),.i (Ap p.kind),.i (Ar p.kind)])]⟩))
   (M.W CZ (he:=(by(repeat'(first|exact trivial|refine And.intro ?_ ?_|refine⟨_,U,_,U,_,U,?_⟩|exact Ai.refl _|exact Ai.of_eq (by simp[Aj.Aw,hX])));done))) ?_ ?_
  .exact j8
  .intro _;skip;refine M.w0 ?_;refine M.rt p.Aa.length
    (fun m=>([(3,.ptr 2 0),(4,.ptr 3 0),(5,.ptr 4 0),(6,.ptr 5 0),(50,.s .fm p.Aa),(51,.i p.Aa.length),(52,.i m)],⟨6,[(0,.var [.i a]),(1,.var [.i (X1).length]),(2,.var p.view),(3,.var [.i v,.i y]),(4,.var [.nilf,.nilf,.fn (.func 192) [] [.ptr 0 0,.ptr 1 0]]),(5,.var [.bool false,.bool x2,.i x3,.i x4,.i x5,.i (Au p.kind),.i (Ap p.kind),.i (Ar p.kind)])]⟩))
    (M.W CZ) ?_ ?_
   .exact j8
   .intro _;skip;refine M.w0 ?_;refine M.rt p.args.length
     (fun m=>([(3,.ptr 2 0),(4,.ptr 3 0),(5,.ptr 4 0),(6,.ptr 5 0),(70,.s .pf p.args),(71,.i p.args.length),(72,.i m)],⟨6,[(0,.var [.i a]),(1,.var [.i ((X1++((Pf.AO (Cs a) y (Ar p.kind) p.args).take m).flatten)).length]),(2,.var p.view),(3,.var [.i v,.i y]),(4,.var [.nilf,.nilf,.fn (.func 192) [] [.ptr 0 0,.ptr 1 0]]),(5,.var [.bool false,.bool x2,.i x3,.i x4,.i x5,.i (Au p.kind),.i (Ap p.kind),.i (Ar p.kind)])]⟩))
     (M.W CZ (he:=(by(repeat'(first|exact trivial|refine And.intro ?_ ?_|refine⟨_,U,_,U,_,U,?_⟩|exact Ai.refl _|exact Ai.of_eq fP));done))) ?_ ?_
    .intro m hm _;have hs2:=zc Pf.full (ZA hm);have hb:=hpl m dY;have hc:=ih p.args[m] (if m+1=p.args.length then v+Ap p.kind else v) (if m+1=p.args.length then y+Ar p.kind else y) (X1++((Pf.AO (Cs a) y (Ar p.kind) p.args).take m).flatten) dY dY ez ez (hpf _ (ZA hm)) (i2 (hka dY) _ (ZA hm)) jk;have e3:(X1++((Pf.AO (Cs a) y (Ar p.kind) p.args).take m).flatten)++p.args[m].B8 (Cs a) (if m+1=p.args.length then y+Ar p.kind else y)=(X1++((Pf.AO (Cs a) y (Ar p.kind) p.args).take (m+1)).flatten):=by rw[ZE,ue (Cs a) hm]
     rw[e3] at hc;have ev:(if(m:Int)=(x5:Int)-1 then y+Ar p.kind else y)=(if m+1=p.args.length then y+Ar p.kind else y):=by
      exact jZ
     have ev2:(if(m:Int)=(x5:Int)-1 then v+Ap p.kind else v)=(if m+1=p.args.length then v+Ap p.kind else v):=by
      exact jZ
     rw[ev,ev2] at hb;refine M.w2 @hb @hc ?_;exact⟨rfl,trivial,(M.W CZ)⟩
    .exact k8
 .refine M.F Tryz.func112 ?_;refine M.w2 @hru @hlf ?_;refine M.rt p.terms.length
   (fun m=>([(3,.ptr 2 0),(4,.ptr 3 0),(5,.ptr 4 0),(6,.ptr 5 0),(33,.s .tm p.terms),(34,.i p.terms.length),(35,.i m)],⟨6,[(0,.var [.i a]),(1,.var [.i (X1).length]),(2,.var p.view),(3,.var [.i v,.i y]),(4,.var [.nilf,.nilf,.fn (.func 192) [] [.ptr 0 0,.ptr 1 0]]),(5,.var [.bool true,.bool x2,.i x3,.i x4,.i x5,.i (Au p.kind),.i (Ap p.kind),.i (Ar p.kind)])]⟩))
   (M.W CZ (he:=(by(repeat'(first|exact trivial|refine And.intro ?_ ?_|refine⟨_,U,_,U,_,U,?_⟩|exact Ai.refl _|exact Ai.of_eq (by simp[Aj.Aw,hX1])));done))) ?_ ?_
  .exact j8
  .intro _;skip;refine M.w0 ?_;refine M.rt p.Aa.length
    (fun m=>([(3,.ptr 2 0),(4,.ptr 3 0),(5,.ptr 4 0),(6,.ptr 5 0),(50,.s .fm p.Aa),(51,.i p.Aa.length),(52,.i m)],⟨6,[(0,.var [.i a]),(1,.var [.i (X1).length]),(2,.var p.view),(3,.var [.i v,.i y]),(4,.var [.nilf,.nilf,.fn (.func 192) [] [.ptr 0 0,.ptr 1 0]]),(5,.var [.bool true,.bool x2,.i x3,.i x4,.i x5,.i (Au p.kind),.i (Ap p.kind),.i (Ar p.kind)])]⟩))
    (M.W CZ) ?_ ?_
   .exact j8
   .intro _;skip;refine M.w0 ?_;refine M.rt p.args.length
     (fun m=>([(3,.ptr 2 0),(4,.ptr 3 0),(5,.ptr 4 0),(6,.ptr 5 0),(70,.s .pf p.args),(71,.i p.args.length),(72,.i m)],⟨6,[(0,.var [.i a]),(1,.var [.i ((X1++((Pf.AO (Cs a) y (Ar p.kind) p.args).take m).flatten)).length]),(2,.var p.view),(3,.var [.i v,.i y]),(4,.var [.nilf,.nilf,.fn (.func 192) [] [.ptr 0 0,.ptr 1 0]]),(5,.var [.bool true,.bool x2,.i x3,.i x4,.i x5,.i (Au p.kind),.i (Ap p.kind),.i (Ar p.kind)])]⟩))
     (M.W CZ (he:=(by(repeat'(first|exact trivial|refine And.intro ?_ ?_|refine⟨_,U,_,U,_,U,?_⟩|exact Ai.refl _|exact Ai.of_eq fP));done))) ?_ ?_
    .intro m hm _;have hs2:=zc Pf.full (ZA hm);have hb:=hpl m dY;have hc:=ih p.args[m] (if m+1=p.args.length then v+Ap p.kind else v) (if m+1=p.args.length then y+Ar p.kind else y) (X1++((Pf.AO (Cs a) y (Ar p.kind) p.args).take m).flatten) dY dY ez ez (hpf _ (ZA hm)) (i2 (hka dY) _ (ZA hm)) jk;have e3:(X1++((Pf.AO (Cs a) y (Ar p.kind) p.args).take m).flatten)++p.args[m].B8 (Cs a) (if m+1=p.args.length then y+Ar p.kind else y)=(X1++((Pf.AO (Cs a) y (Ar p.kind) p.args).take (m+1)).flatten):=by rw[ZE,ue (Cs a) hm]
     rw[e3] at hc;have ev:(if(m:Int)=(x5:Int)-1 then y+Ar p.kind else y)=(if m+1=p.args.length then y+Ar p.kind else y):=by
      exact jZ
     have ev2:(if(m:Int)=(x5:Int)-1 then v+Ap p.kind else v)=(if m+1=p.args.length then v+Ap p.kind else v):=by
      exact jZ
     rw[ev,ev2] at hb;refine M.w2 @hb @hc ?_;exact⟨rfl,trivial,(M.W CZ)⟩
    .exact k8
end Go.Ab
