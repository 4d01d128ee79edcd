/- A part of this seat's proofs. No conditions. -/
import Derived.Test.YtknjfffhfolkcaaGreatDoorHST9
namespace Go.Ab
open Go Go.Proofs
set_option maxRecDepth 100000
set_option maxHeartbeats 4000000
set_option linter.all false
theorem V6(n:Int)(b:Bool)(sz ti k:Int)(hs:0<=sz/\sz<=4096)(ht:0<=ti/\ti<=4096)(hk:1<=k/\k<=4096)(hn:0<=n/\n<=17000000000000000):
 AC E 202 [.ptr 0 0,.i sz,.i ti,.i k,.i 4096] ⟨1,[(0,.var [.i n,.bool b])]⟩ (.AD []) ⟨1,[(0,.var [.i (n+ti*(k-1)),.bool (b||decide (sz+ti*(k-1)>4096))])]⟩:=by
 have h3:0<=ti*(k-1):=Yy ht.1 (by omega);have h4:ti*(k-1)<=4096*4095:=Yz ht.2 (by omega) (by omega) (by omega);have hm': -9223372036854775808<=ti*(k-1)/\ti*(k-1)<=9223372036854775807:=by omega
 cases b;all_goals
  refine M.F Tryz.func202 ?_;(repeat' first|refine M.gw ?_|fail)
  (exact M.n2 [some 0] (h8:=(by simp[zk,V.wk,V.Ap,zc,Ty.view,Tm.view,Bool.true_or,Bool.false_or])))
theorem SV(a k n0:Int)(ha:0<=a/\a<=4096)(hk:1<=k/\k<=4096)(hn0:0<=n0/\n0<=1000000)(Xs:List (Int×Int))(t:Tm)(bl:Int)(he:t.err=0)(hb:0<=bl/\bl<100000000000)(hix:∀p∈t.vars 0,0<=p.1/\p.1<1099511627776)(hg:CV (Xs++[AR a bl t])):
 AC E 201 [.agg t.view,.i bl,.ptr 0 0,.ptr 1 0,.ptr 2 0] ⟨4,[(0,.var [.ptr 3 0]),(1,.var [.i a]),(2,.var [.i k]),(3,.var [.i (CD n0 k Xs),.bool (C3 k Xs)])]⟩ (.AD [])
  ⟨4,[(0,.var [.ptr 3 0]),(1,.var [.i a]),(2,.var [.i k]),(3,.var [.i (CD n0 k (Xs++[AR a bl t])),.bool (C3 k (Xs++[AR a bl t]))])]⟩:=by
 have hf:=z6 he;have h1:=Kf t (by omega);rw[he,show t.num=t.size by unfold Tm.num;rw[if_pos he]] at h1;have h2:=SF t (a+bl) (by omega) hix;have hx:=(hg.1 (AR a bl t) (by simp));have hp:=CV.pre (List.prefix_append Xs [AR a bl t]) hg;have hbd:=Ri (n:=n0) hk hn0 hp;have hl:=hp.2;rw[UR,Uu];simp only[AR] at hx ⊢;have h3:=V6 (CD n0 k Xs) (C3 k Xs) t.size (cnt (a+bl) (t.vars 0)) k hx.1 hx.2 hk (by omega);obtain⟨N0,e1⟩:∃x,x=CD n0 k Xs:=⟨_,rfl⟩;obtain⟨B0,e2⟩:∃x,x=C3 k Xs:=⟨_,rfl⟩;rw[<-e1,<-e2] at h3;rw[<-e1,<-e2];clear e1 e2 hbd hp hg hx hl;refine M.F Tryz.func201 ?_;(repeat' first|refine M.gw ?_|refine M.c2 (h1) ?_|refine M.c2 (h2) ?_|refine M.cb (h3) [3] 0 ?_|fail)
 (exact M.n2 [some 0,some 1,some 2,some 3] (h8:=(by simp[zk,V.wk,V.Ap,zc,Ty.view,Tm.view,h1])))
theorem VF(a k n0:Int)(ha:0<=a/\a<=4096)(hk:1<=k/\k<=4096)(hn0:0<=n0/\n0<=1000000)(Xs:List (Int×Int))(t:Fm)(bl:Int)(he:t.err=0)(hb:0<=bl/\bl<100000000000)(hix:∀p∈t.AZ 0,∀q∈p.1.vars 0,0<=q.1/\q.1<1099511627776)(hg:CV (Xs++[AU a bl t])):
 AC E 204 [.agg t.view,.i bl,.ptr 0 0,.ptr 1 0,.ptr 2 0] ⟨4,[(0,.var [.ptr 3 0]),(1,.var [.i a]),(2,.var [.i k]),(3,.var [.i (CD n0 k Xs),.bool (C3 k Xs)])]⟩ (.AD [])
  ⟨4,[(0,.var [.ptr 3 0]),(1,.var [.i a]),(2,.var [.i k]),(3,.var [.i (CD n0 k (Xs++[AU a bl t])),.bool (C3 k (Xs++[AU a bl t]))])]⟩:=by
 have hf:=ye he;have h1:=OJ t (by omega);rw[he,show t.num=t.size by unfold Fm.num;rw[if_pos he]] at h1;have h2:=Zvl t (a+bl) (by omega) (by omega) hix;have hx:=(hg.1 (AU a bl t) (by simp));have hp:=CV.pre (List.prefix_append Xs [AU a bl t]) hg;have hbd:=Ri (n:=n0) hk hn0 hp;have hl:=hp.2;rw[UR,Uu];simp only[AU] at hx ⊢;have h3:=V6 (CD n0 k Xs) (C3 k Xs) t.size (wr (a+bl) (t.AZ 0)) k hx.1 hx.2 hk (by omega);obtain⟨N0,e1⟩:∃x,x=CD n0 k Xs:=⟨_,rfl⟩;obtain⟨B0,e2⟩:∃x,x=C3 k Xs:=⟨_,rfl⟩;rw[<-e1,<-e2] at h3;rw[<-e1,<-e2];clear e1 e2 hbd hp hg hx hl;refine M.F Tryz.func204 ?_;(repeat' first|refine M.gw ?_|refine M.c2 (h1) ?_|refine M.c2 (h2) ?_|refine M.cb (h3) [3] 0 ?_|fail)
 (exact M.n2 [some 0,some 1,some 2,some 3] (h8:=(by simp[zk,V.wk,V.Ap,zc,Ty.view,Tm.view,h1])))
theorem Yf0(a k n0:Int)(ha:0<=a/\a<=4096)(hk:1<=k/\k<=4096)(hn0:0<=n0/\n0<=1000000):∀(n:Nat) (p:Pf) (v y:Int) (Xs:List (Int×Int)),p.full<=n->n<10000000000->(0<=v/\v+2*n<=50000000000)->(0<=y/\y+2*n<=50000000000)->p.nd->p.ix 1099511627776->p.shape=true->p.small=true->CV (Xs++p.Cm (AR a) (AU a) v)->
 AC E 94 [.agg p.view,.agg [.i v,.i y],.agg [.fn (.func 201) [] [.ptr 0 0,.ptr 1 0,.ptr 2 0],.fn (.func 204) [] [.ptr 0 0,.ptr 1 0,.ptr 2 0],.nilf]] ⟨4,[(0,.var [.ptr 3 0]),(1,.var [.i a]),(2,.var [.i k]),(3,.var [.i (CD n0 k Xs),.bool (C3 k Xs)])]⟩ (.AD []) ⟨4,[(0,.var [.ptr 3 0]),(1,.var [.i a]),(2,.var [.i k]),(3,.var [.i (CD n0 k (Xs++p.Cm (AR a) (AU a) v)),.bool (C3 k (Xs++p.Cm (AR a) (AU a) v))])]⟩:=by
 intro n;induction n with
 |zero=>intro p v y Xs hz;have:=p.Aa;omega
 |succ n ih=>
 intro p v y Xs hz hn hv hh hs hix hsh hsm hg;obtain⟨i1,i2,i3⟩:=(Pf.AY _ p).1 hix;obtain⟨s1,s2,s3⟩:=y6 hsm;obtain⟨_,s4,s5,s6⟩:=ze hsh;have te:∀t∈p.terms,t.err=0:=fun t h=>(Tm.Ad t).2 ⟨s4 t h,s1 t h⟩;have fe:∀t∈p.Ac,t.err=0:=fun t h=>(Fm.Ad t).2 ⟨s5 t h,s2 t h⟩;have hg0:=hg;rw[p.BE (AR a) (AU a) v] at hg;have hre:=p.BE (AR a) (AU a) v;have hsz':=p.Af;have hlen:=zd Pf.full Pf.Aa p.args;have hlen1:=zd Fm.full Fm.Aa p.Ac;have hlen2:=zd Tm.full Tm.Aa p.terms;have hru:=vd p.kind;obtain⟨⟨nd,n1,n4⟩,hpf⟩:=(Pf.BK p).1 hs;have hal:p.args.length<=2:=by
  rw[n4];unfold BD at n1
  repeat(split at n1;· cases n1;decide)
  cases n1
 have hpl:=fun(m:Nat) (hm:m<=1000000)=>y3 p.kind v y nd n1 m hm (by omega) (by omega);have e2:C0 p.kind=[.bool nd.index,.bool nd.typ,.i nd.terms,.i nd.Ac,.i nd.args,.i (Aw p.kind),.i (As p.kind),.i (At p.kind)]:=by unfold C0;rw[n1]
 have b1:0<=As p.kind/\As p.kind<=2:=by unfold As;split<;>(try split)<;>omega
 have b2:0<=At p.kind/\At p.kind<=1:=by unfold At;split<;>omega
 have b3:0<=Aw p.kind/\Aw p.kind<=1:=by unfold Aw;split<;>omega
 rw[n1] at hru;simp only[Xf] at hru;rw[e2] at hru;simp only[e2] at hpl;clear n1 e2;obtain⟨x3,x4,x5,ix,x2⟩:=nd;simp only at n4 hru hpl;cases ix
 .refine M.F Tryz.func94 ?_;(repeat' first|refine M.gw ?_|refine M.c2 (hru) ?_|fail);refine AW.range p.terms.length (fun m=>True)
   (fun m=>([(3,.ptr 4 0),(4,.ptr 5 0),(5,.ptr 6 0),(6,.ptr 7 0),(33,.s .tm p.terms),(34,.i p.terms.length),(35,.i m)],⟨8,[(0,.var [.ptr 3 0]),(1,.var [.i a]),(2,.var [.i k]),(3,.var [.i (CD n0 k (Xs++(p.terms.take m).map ((AR a) v))),.bool (C3 k (Xs++(p.terms.take m).map ((AR a) v)))]),(4,.var p.view),(5,.var [.i v,.i y]),(6,.var [.fn (.func 201) [] [.ptr 0 0,.ptr 1 0,.ptr 2 0],.fn (.func 204) [] [.ptr 0 0,.ptr 1 0,.ptr 2 0],.nilf]),(7,.var [.bool false,.bool x2,.i x3,.i x4,.i x5,.i (Aw p.kind),.i (As p.kind),.i (At p.kind)])]⟩))
   (by omega) (fun m=>rfl) (fun m=>rfl) U trivial (M.W [some 0,some 1,some 2,some 3,some 4,some 5,some 6,some 7] (he:=(by(repeat'(first|exact trivial|refine And.intro ?_ ?_|refine⟨_,U,_,U,_,U,?_⟩|exact Ao.refl _|exact Ao.of_eq (by simp[Aq.Ay,WX,WI,WR])));done))) ?_ ?_
  .intro m hm _;have hs2:=za Tm.full (Wi hm);have hc:=SV a k n0 ha hk hn0 (Xs++(p.terms.take m).map ((AR a) v)) p.terms[m] v (te _ (Wi hm)) (by omega) (i1 _ (Wi hm)) (CV.pre (by have:=MK Xs (p.Ac.map ((AU a) (v+Aw p.kind))++(Pf.AL (AR a) (AU a) v (As p.kind) p.args).flatten) p.terms ((AR a) v) m hm;simpa only[Wr] using this) hg);(repeat' first|refine M.gw ?_|refine M.cv (hc) [0,1,2,3] 0 ?_|fail);exact⟨rfl,trivial,(M.W [some 0,some 1,some 2,some 3,some 4,some 5,some 6,some 7] (he:=(by(repeat'(first|exact trivial|refine And.intro ?_ ?_|refine⟨_,U,_,U,_,U,?_⟩|exact Ao.refl _|exact Ao.of_eq (by simp[Aq.Ay,zy _ _ _ hm,Wr])));done)))⟩
  .intro _;simp only[Wp];(repeat' first|refine M.gw ?_|fail);refine AW.range p.Ac.length (fun m=>True)
    (fun m=>([(3,.ptr 4 0),(4,.ptr 5 0),(5,.ptr 6 0),(6,.ptr 7 0),(50,.s .fm p.Ac),(51,.i p.Ac.length),(52,.i m)],⟨8,[(0,.var [.ptr 3 0]),(1,.var [.i a]),(2,.var [.i k]),(3,.var [.i (CD n0 k (Xs++p.terms.map ((AR a) v)++(p.Ac.take m).map ((AU a) (v+Aw p.kind)))),.bool (C3 k (Xs++p.terms.map ((AR a) v)++(p.Ac.take m).map ((AU a) (v+Aw p.kind))))]),(4,.var p.view),(5,.var [.i v,.i y]),(6,.var [.fn (.func 201) [] [.ptr 0 0,.ptr 1 0,.ptr 2 0],.fn (.func 204) [] [.ptr 0 0,.ptr 1 0,.ptr 2 0],.nilf]),(7,.var [.bool false,.bool x2,.i x3,.i x4,.i x5,.i (Aw p.kind),.i (As p.kind),.i (At p.kind)])]⟩))
    (by omega) (fun m=>rfl) (fun m=>rfl) U trivial (M.W [some 0,some 1,some 2,some 3,some 4,some 5,some 6,some 7] (he:=(by(repeat'(first|exact trivial|refine And.intro ?_ ?_|refine⟨_,U,_,U,_,U,?_⟩|exact Ao.refl _|exact Ao.of_eq (by simp[Aq.Ay,WX,WI,WR])));done))) ?_ ?_
   .intro m hm _;have hs2:=za Fm.full (Wi hm);have hc:=VF a k n0 ha hk hn0 (Xs++p.terms.map ((AR a) v)++(p.Ac.take m).map ((AU a) (v+Aw p.kind))) p.Ac[m] (v+Aw p.kind) (fe _ (Wi hm)) (by omega) (i2 _ (Wi hm)) (CV.pre (by have:=MK (Xs++p.terms.map ((AR a) v)) ((Pf.AL (AR a) (AU a) v (As p.kind) p.args).flatten) p.Ac ((AU a) (v+Aw p.kind)) m hm;simpa only[Wr] using this) hg);(repeat' first|refine M.gw ?_|refine M.cv (hc) [0,1,2,3] 0 ?_|fail);exact⟨rfl,trivial,(M.W [some 0,some 1,some 2,some 3,some 4,some 5,some 6,some 7] (he:=(by(repeat'(first|exact trivial|refine And.intro ?_ ?_|refine⟨_,U,_,U,_,U,?_⟩|exact Ao.refl _|exact Ao.of_eq (by simp[Aq.Ay,zy _ _ _ hm,Wr])));done)))⟩
   .intro _;simp only[Wp];(repeat' first|refine M.gw ?_|fail);refine AW.range p.args.length (fun m=>True)
     (fun m=>([(3,.ptr 4 0),(4,.ptr 5 0),(5,.ptr 6 0),(6,.ptr 7 0),(70,.s .pf p.args),(71,.i p.args.length),(72,.i m)],⟨8,[(0,.var [.ptr 3 0]),(1,.var [.i a]),(2,.var [.i k]),(3,.var [.i (CD n0 k (Xs++p.terms.map ((AR a) v)++p.Ac.map ((AU a) (v+Aw p.kind))++((Pf.AL (AR a) (AU a) v (As p.kind) p.args).take m).flatten)),.bool (C3 k (Xs++p.terms.map ((AR a) v)++p.Ac.map ((AU a) (v+Aw p.kind))++((Pf.AL (AR a) (AU a) v (As p.kind) p.args).take m).flatten))]),(4,.var p.view),(5,.var [.i v,.i y]),(6,.var [.fn (.func 201) [] [.ptr 0 0,.ptr 1 0,.ptr 2 0],.fn (.func 204) [] [.ptr 0 0,.ptr 1 0,.ptr 2 0],.nilf]),(7,.var [.bool false,.bool x2,.i x3,.i x4,.i x5,.i (Aw p.kind),.i (As p.kind),.i (At p.kind)])]⟩))
     (by omega) (fun m=>rfl) (fun m=>rfl) U trivial (M.W [some 0,some 1,some 2,some 3,some 4,some 5,some 6,some 7] (he:=(by(repeat'(first|exact trivial|refine And.intro ?_ ?_|refine⟨_,U,_,U,_,U,?_⟩|exact Ao.refl _|exact Ao.of_eq (by simp[Aq.Ay,WX,Xi,WR])));done))) ?_ ?_
    .intro m hm _;have hs2:=za Pf.full (Wi hm);have hb:=hpl m (by omega);have hc:=ih p.args[m] (if m+1=p.args.length then v+As p.kind else v) (if m+1=p.args.length then y+At p.kind else y) (Xs++p.terms.map ((AR a) v)++p.Ac.map ((AU a) (v+Aw p.kind))++((Pf.AL (AR a) (AU a) v (As p.kind) p.args).take m).flatten) (by omega) (by omega) (by split<;>omega) (by split<;>omega) (hpf _ (Wi hm)) (i3 _ (Wi hm)) (s6 _ (Wi hm)) (s3 _ (Wi hm)) (CV.pre (by have:=MW (Xs++p.terms.map ((AR a) v)++p.Ac.map ((AU a) (v+Aw p.kind))) (Pf.AL (AR a) (AU a) v (As p.kind) p.args) m (by rw[v4];exact hm);rw[uv _ _ _ _ _ _ hm] at this;simpa only[Wr] using this) hg);have e3:(Xs++p.terms.map ((AR a) v)++p.Ac.map ((AU a) (v+Aw p.kind))++((Pf.AL (AR a) (AU a) v (As p.kind) p.args).take m).flatten)++p.args[m].Cm (AR a) (AU a) (if m+1=p.args.length then v+As p.kind else v)=(Xs++p.terms.map ((AR a) v)++p.Ac.map ((AU a) (v+Aw p.kind))++((Pf.AL (AR a) (AU a) v (As p.kind) p.args).take (m+1)).flatten):=by rw[Wr,K6 (AR a) (AU a) hm]
     rw[e3] at hc;have ev:(if(m:Int)=(x5:Int)-1 then y+At p.kind else y)=(if m+1=p.args.length then y+At p.kind else y):=by
      by_cases hx:m+1=p.args.length
      .rw[if_pos hx,if_pos (by omega)]
      .rw[if_neg hx,if_neg (by omega)]
     have ev2:(if(m:Int)=(x5:Int)-1 then v+As p.kind else v)=(if m+1=p.args.length then v+As p.kind else v):=by
      by_cases hx:m+1=p.args.length
      .rw[if_pos hx,if_pos (by omega)]
      .rw[if_neg hx,if_neg (by omega)]
     rw[ev,ev2] at hb;(repeat' first|refine M.gw ?_|refine M.c2 (hb) ?_|refine M.cv (hc) [0,1,2,3] 0 ?_|fail);exact⟨rfl,trivial,(M.W [some 0,some 1,some 2,some 3,some 4,some 5,some 6,some 7])⟩
    .intro _;rw[hre];simp only[K7];skip
     (exact M.n2 [some 0,some 1,some 2,some 3] (h6:=(by(repeat'(first|exact trivial|refine And.intro ?_ ?_|refine⟨_,U,_,U,_,U,?_⟩|exact Ao.refl _|exact Ao.of_eq (by simp[Aq.Ay,Wr])));done)) (h8:=(by simp[zk,V.wk,V.Ap,zc,Ty.view,Tm.view,Wr])))
 .refine M.F Tryz.func94 ?_;(repeat' first|refine M.gw ?_|refine M.c2 (hru) ?_|fail);refine AW.range p.terms.length (fun m=>True)
   (fun m=>([(3,.ptr 4 0),(4,.ptr 5 0),(5,.ptr 6 0),(6,.ptr 7 0),(33,.s .tm p.terms),(34,.i p.terms.length),(35,.i m)],⟨8,[(0,.var [.ptr 3 0]),(1,.var [.i a]),(2,.var [.i k]),(3,.var [.i (CD n0 k (Xs++(p.terms.take m).map ((AR a) v))),.bool (C3 k (Xs++(p.terms.take m).map ((AR a) v)))]),(4,.var p.view),(5,.var [.i v,.i y]),(6,.var [.fn (.func 201) [] [.ptr 0 0,.ptr 1 0,.ptr 2 0],.fn (.func 204) [] [.ptr 0 0,.ptr 1 0,.ptr 2 0],.nilf]),(7,.var [.bool true,.bool x2,.i x3,.i x4,.i x5,.i (Aw p.kind),.i (As p.kind),.i (At p.kind)])]⟩))
   (by omega) (fun m=>rfl) (fun m=>rfl) U trivial (M.W [some 0,some 1,some 2,some 3,some 4,some 5,some 6,some 7] (he:=(by(repeat'(first|exact trivial|refine And.intro ?_ ?_|refine⟨_,U,_,U,_,U,?_⟩|exact Ao.refl _|exact Ao.of_eq (by simp[Aq.Ay,WX,WI,WR])));done))) ?_ ?_
  .intro m hm _;have hs2:=za Tm.full (Wi hm);have hc:=SV a k n0 ha hk hn0 (Xs++(p.terms.take m).map ((AR a) v)) p.terms[m] v (te _ (Wi hm)) (by omega) (i1 _ (Wi hm)) (CV.pre (by have:=MK Xs (p.Ac.map ((AU a) (v+Aw p.kind))++(Pf.AL (AR a) (AU a) v (As p.kind) p.args).flatten) p.terms ((AR a) v) m hm;simpa only[Wr] using this) hg);(repeat' first|refine M.gw ?_|refine M.cv (hc) [0,1,2,3] 0 ?_|fail);exact⟨rfl,trivial,(M.W [some 0,some 1,some 2,some 3,some 4,some 5,some 6,some 7] (he:=(by(repeat'(first|exact trivial|refine And.intro ?_ ?_|refine⟨_,U,_,U,_,U,?_⟩|exact Ao.refl _|exact Ao.of_eq (by simp[Aq.Ay,zy _ _ _ hm,Wr])));done)))⟩
  .intro _;simp only[Wp];(repeat' first|refine M.gw ?_|fail);refine AW.range p.Ac.length (fun m=>True)
    (fun m=>([(3,.ptr 4 0),(4,.ptr 5 0),(5,.ptr 6 0),(6,.ptr 7 0),(50,.s .fm p.Ac),(51,.i p.Ac.length),(52,.i m)],⟨8,[(0,.var [.ptr 3 0]),(1,.var [.i a]),(2,.var [.i k]),(3,.var [.i (CD n0 k (Xs++p.terms.map ((AR a) v)++(p.Ac.take m).map ((AU a) (v+Aw p.kind)))),.bool (C3 k (Xs++p.terms.map ((AR a) v)++(p.Ac.take m).map ((AU a) (v+Aw p.kind))))]),(4,.var p.view),(5,.var [.i v,.i y]),(6,.var [.fn (.func 201) [] [.ptr 0 0,.ptr 1 0,.ptr 2 0],.fn (.func 204) [] [.ptr 0 0,.ptr 1 0,.ptr 2 0],.nilf]),(7,.var [.bool true,.bool x2,.i x3,.i x4,.i x5,.i (Aw p.kind),.i (As p.kind),.i (At p.kind)])]⟩))
    (by omega) (fun m=>rfl) (fun m=>rfl) U trivial (M.W [some 0,some 1,some 2,some 3,some 4,some 5,some 6,some 7] (he:=(by(repeat'(first|exact trivial|refine And.intro ?_ ?_|refine⟨_,U,_,U,_,U,?_⟩|exact Ao.refl _|exact Ao.of_eq (by simp[Aq.Ay,WX,WI,WR])));done))) ?_ ?_
   .intro m hm _;have hs2:=za Fm.full (Wi hm);have hc:=VF a k n0 ha hk hn0 (Xs++p.terms.map ((AR a) v)++(p.Ac.take m).map ((AU a) (v+Aw p.kind))) p.Ac[m] (v+Aw p.kind) (fe _ (Wi hm)) (by omega) (i2 _ (Wi hm)) (CV.pre (by have:=MK (Xs++p.terms.map ((AR a) v)) ((Pf.AL (AR a) (AU a) v (As p.kind) p.args).flatten) p.Ac ((AU a) (v+Aw p.kind)) m hm;simpa only[Wr] using this) hg);(repeat' first|refine M.gw ?_|refine M.cv (hc) [0,1,2,3] 0 ?_|fail);exact⟨rfl,trivial,(M.W [some 0,some 1,some 2,some 3,some 4,some 5,some 6,some 7] (he:=(by(repeat'(first|exact trivial|refine And.intro ?_ ?_|refine⟨_,U,_,U,_,U,?_⟩|exact Ao.refl _|exact Ao.of_eq (by simp[Aq.Ay,zy _ _ _ hm,Wr])));done)))⟩
   .intro _;simp only[Wp];(repeat' first|refine M.gw ?_|fail);refine AW.range p.args.length (fun m=>True)
     (fun m=>([(3,.ptr 4 0),(4,.ptr 5 0),(5,.ptr 6 0),(6,.ptr 7 0),(70,.s .pf p.args),(71,.i p.args.length),(72,.i m)],⟨8,[(0,.var [.ptr 3 0]),(1,.var [.i a]),(2,.var [.i k]),(3,.var [.i (CD n0 k (Xs++p.terms.map ((AR a) v)++p.Ac.map ((AU a) (v+Aw p.kind))++((Pf.AL (AR a) (AU a) v (As p.kind) p.args).take m).flatten)),.bool (C3 k (Xs++p.terms.map ((AR a) v)++p.Ac.map ((AU a) (v+Aw p.kind))++((Pf.AL (AR a) (AU a) v (As p.kind) p.args).take m).flatten))]),(4,.var p.view),(5,.var [.i v,.i y]),(6,.var [.fn (.func 201) [] [.ptr 0 0,.ptr 1 0,.ptr 2 0],.fn (.func 204) [] [.ptr 0 0,.ptr 1 0,.ptr 2 0],.nilf]),(7,.var [.bool true,.bool x2,.i x3,.i x4,.i x5,.i (Aw p.kind),.i (As p.kind),.i (At p.kind)])]⟩))
     (by omega) (fun m=>rfl) (fun m=>rfl) U trivial (M.W [some 0,some 1,some 2,some 3,some 4,some 5,some 6,some 7] (he:=(by(repeat'(first|exact trivial|refine And.intro ?_ ?_|refine⟨_,U,_,U,_,U,?_⟩|exact Ao.refl _|exact Ao.of_eq (by simp[Aq.Ay,WX,Xi,WR])));done))) ?_ ?_
    .intro m hm _;have hs2:=za Pf.full (Wi hm);have hb:=hpl m (by omega);have hc:=ih p.args[m] (if m+1=p.args.length then v+As p.kind else v) (if m+1=p.args.length then y+At p.kind else y) (Xs++p.terms.map ((AR a) v)++p.Ac.map ((AU a) (v+Aw p.kind))++((Pf.AL (AR a) (AU a) v (As p.kind) p.args).take m).flatten) (by omega) (by omega) (by split<;>omega) (by split<;>omega) (hpf _ (Wi hm)) (i3 _ (Wi hm)) (s6 _ (Wi hm)) (s3 _ (Wi hm)) (CV.pre (by have:=MW (Xs++p.terms.map ((AR a) v)++p.Ac.map ((AU a) (v+Aw p.kind))) (Pf.AL (AR a) (AU a) v (As p.kind) p.args) m (by rw[v4];exact hm);rw[uv _ _ _ _ _ _ hm] at this;simpa only[Wr] using this) hg);have e3:(Xs++p.terms.map ((AR a) v)++p.Ac.map ((AU a) (v+Aw p.kind))++((Pf.AL (AR a) (AU a) v (As p.kind) p.args).take m).flatten)++p.args[m].Cm (AR a) (AU a) (if m+1=p.args.length then v+As p.kind else v)=(Xs++p.terms.map ((AR a) v)++p.Ac.map ((AU a) (v+Aw p.kind))++((Pf.AL (AR a) (AU a) v (As p.kind) p.args).take (m+1)).flatten):=by rw[Wr,K6 (AR a) (AU a) hm]
     rw[e3] at hc;have ev:(if(m:Int)=(x5:Int)-1 then y+At p.kind else y)=(if m+1=p.args.length then y+At p.kind else y):=by
      by_cases hx:m+1=p.args.length
      .rw[if_pos hx,if_pos (by omega)]
      .rw[if_neg hx,if_neg (by omega)]
     have ev2:(if(m:Int)=(x5:Int)-1 then v+As p.kind else v)=(if m+1=p.args.length then v+As p.kind else v):=by
      by_cases hx:m+1=p.args.length
      .rw[if_pos hx,if_pos (by omega)]
      .rw[if_neg hx,if_neg (by omega)]
     rw[ev,ev2] at hb;(repeat' first|refine M.gw ?_|refine M.c2 (hb) ?_|refine M.cv (hc) [0,1,2,3] 0 ?_|fail);exact⟨rfl,trivial,(M.W [some 0,some 1,some 2,some 3,some 4,some 5,some 6,some 7])⟩
    .intro _;rw[hre];simp only[K7];skip
     (exact M.n2 [some 0,some 1,some 2,some 3] (h6:=(by(repeat'(first|exact trivial|refine And.intro ?_ ?_|refine⟨_,U,_,U,_,U,?_⟩|exact Ao.refl _|exact Ao.of_eq (by simp[Aq.Ay,Wr])));done)) (h8:=(by simp[zk,V.wk,V.Ap,zc,Ty.view,Tm.view,Wr])))
theorem QN(Xs:List Bool)(p:Pf)(v y:Int):AC E 129 [.agg p.view,.agg [.i v,.i y],.ptr 0 0] ⟨1,[(0,.var [.bool (Xs.all id)])]⟩ (.AD []) ⟨1,[(0,.var [.bool ((Xs++Dg p.kind p.index y).all id)])]⟩:=by
 rw[WQ];generalize Xs.all id=b;unfold Dg;by_cases h1:p.kind=1
 .rw[if_pos h1];cases b;all_goals
   refine M.F Tryz.func129 ?_;(repeat' first|refine M.gw ?_|refine M.gs ?_ ?_<;>intro h|fail);all_goals first|exfalso;simp at h;exact absurd h1 h|exfalso;simp_all;done|exact M.n2 [some 0] (h6:=(by(repeat'(first|exact trivial|refine And.intro ?_ ?_|refine⟨_,U,_,U,_,U,?_⟩|exact Ao.refl _|exact Ao.of_eq (by simp[Aq.Ay,WZ,Xo,h1])));done)) (h8:=(by simp[zk,V.wk,V.Ap,zc,Ty.view,Tm.view,WZ,Xo,h1]))
 .rw[if_neg h1];cases b;all_goals
   refine M.F Tryz.func129 ?_;(repeat' first|refine M.gw ?_|refine M.gs ?_ ?_<;>intro h|fail);all_goals first|exfalso;simp at h;exact absurd h h1|exfalso;simp_all;done|exact M.n2 [some 0] (h8:=(by simp[zk,V.wk,V.Ap,zc,Ty.view,Tm.view,WZ,Xo,h1]))
theorem Ygg:∀(n:Nat) (p:Pf) (v y:Int) (Xs:List Bool),p.full<=n->n<10000000000->(0<=v/\v+2*n<=50000000000)->(0<=y/\y+2*n<=50000000000)->p.nd->
 AC E 94 [.agg p.view,.agg [.i v,.i y],.agg [.nilf,.nilf,.fn (.func 129) [] [.ptr 0 0]]] ⟨1,[(0,.var [.bool (Xs.all id)])]⟩ (.AD []) ⟨1,[(0,.var [.bool ((Xs++p.Cv (Dg) y).all id)])]⟩:=by
 intro n;induction n with
 |zero=>intro p v y Xs hz;have:=p.Aa;omega
 |succ n ih=>
 intro p v y Xs hz hn hv hh hs;have hre:=p.BG (Dg) y;have hsz':=p.Af;have hlen:=zd Pf.full Pf.Aa p.args;have hlen1:=zd Fm.full Fm.Aa p.Ac;have hlen2:=zd Tm.full Tm.Aa p.terms;have hru:=vd p.kind;obtain⟨⟨nd,n1,n4⟩,hpf⟩:=(Pf.BK p).1 hs;have hal:p.args.length<=2:=by
  rw[n4];unfold BD at n1
  repeat(split at n1;· cases n1;decide)
  cases n1
 have hpl:=fun(m:Nat) (hm:m<=1000000)=>y3 p.kind v y nd n1 m hm (by omega) (by omega);have e2:C0 p.kind=[.bool nd.index,.bool nd.typ,.i nd.terms,.i nd.Ac,.i nd.args,.i (Aw p.kind),.i (As p.kind),.i (At p.kind)]:=by unfold C0;rw[n1]
 have b1:0<=As p.kind/\As p.kind<=2:=by unfold As;split<;>(try split)<;>omega
 have b2:0<=At p.kind/\At p.kind<=1:=by unfold At;split<;>omega
 have b3:0<=Aw p.kind/\Aw p.kind<=1:=by unfold Aw;split<;>omega
 rw[n1] at hru;simp only[Xf] at hru;rw[e2] at hru;simp only[e2] at hpl;have hlf:=QN Xs p v y;have hno:nd.index=false->(Dg) p.kind p.index y=[]:=fun hi=>by
  have k1:p.kind≠1:=fun e=>by rw[e] at n1;simp[BD] at n1;rw[<-n1] at hi;cases hi
  have k2:p.kind≠2:=fun e=>by rw[e] at n1;simp[BD] at n1;rw[<-n1] at hi;cases hi
  simp[Dg,vj,Tb,k1,k2]
 obtain⟨X1,hX1⟩:∃X1,X1=Xs++(Dg) p.kind p.index y:=⟨_,rfl⟩;obtain⟨x3,x4,x5,ix,x2⟩:=nd;simp only at n4 hru hpl hno;cases ix
 .have hX:X1=Xs:=by rw[hX1,hno rfl,WR]
  refine M.F Tryz.func94 ?_;(repeat' first|refine M.gw ?_|refine M.c2 (hru) ?_|fail);refine AW.range p.terms.length (fun m=>True)
   (fun m=>([(3,.ptr 1 0),(4,.ptr 2 0),(5,.ptr 3 0),(6,.ptr 4 0),(33,.s .tm p.terms),(34,.i p.terms.length),(35,.i m)],⟨5,[(0,.var [.bool (X1.all id)]),(1,.var p.view),(2,.var [.i v,.i y]),(3,.var [.nilf,.nilf,.fn (.func 129) [] [.ptr 0 0]]),(4,.var [.bool false,.bool x2,.i x3,.i x4,.i x5,.i (Aw p.kind),.i (As p.kind),.i (At p.kind)])]⟩))
   (by omega) (fun m=>rfl) (fun m=>rfl) U trivial (M.W [some 0,some 1,some 2,some 3,some 4] (he:=(by(repeat'(first|exact trivial|refine And.intro ?_ ?_|refine⟨_,U,_,U,_,U,?_⟩|exact Ao.refl _|exact Ao.of_eq (by simp[Aq.Ay,hX])));done))) ?_ ?_
  .intro m hm _;(repeat' first|refine M.gw ?_|fail);exact⟨rfl,trivial,(M.W [some 0,some 1,some 2,some 3,some 4])⟩
  .intro _;skip;(repeat' first|refine M.gw ?_|fail);refine AW.range p.Ac.length (fun m=>True)
    (fun m=>([(3,.ptr 1 0),(4,.ptr 2 0),(5,.ptr 3 0),(6,.ptr 4 0),(50,.s .fm p.Ac),(51,.i p.Ac.length),(52,.i m)],⟨5,[(0,.var [.bool (X1.all id)]),(1,.var p.view),(2,.var [.i v,.i y]),(3,.var [.nilf,.nilf,.fn (.func 129) [] [.ptr 0 0]]),(4,.var [.bool false,.bool x2,.i x3,.i x4,.i x5,.i (Aw p.kind),.i (As p.kind),.i (At p.kind)])]⟩))
    (by omega) (fun m=>rfl) (fun m=>rfl) rfl trivial (M.W [some 0,some 1,some 2,some 3,some 4]) ?_ ?_
   .intro m hm _;(repeat' first|refine M.gw ?_|fail);exact⟨rfl,trivial,(M.W [some 0,some 1,some 2,some 3,some 4])⟩
   .intro _;skip;(repeat' first|refine M.gw ?_|fail);refine AW.range p.args.length (fun m=>True)
     (fun m=>([(3,.ptr 1 0),(4,.ptr 2 0),(5,.ptr 3 0),(6,.ptr 4 0),(70,.s .pf p.args),(71,.i p.args.length),(72,.i m)],⟨5,[(0,.var [.bool ((X1++((Pf.AM (Dg) y (At p.kind) p.args).take m).flatten).all id)]),(1,.var p.view),(2,.var [.i v,.i y]),(3,.var [.nilf,.nilf,.fn (.func 129) [] [.ptr 0 0]]),(4,.var [.bool false,.bool x2,.i x3,.i x4,.i x5,.i (Aw p.kind),.i (As p.kind),.i (At p.kind)])]⟩))
     (by omega) (fun m=>rfl) (fun m=>rfl) U trivial (M.W [some 0,some 1,some 2,some 3,some 4] (he:=(by(repeat'(first|exact trivial|refine And.intro ?_ ?_|refine⟨_,U,_,U,_,U,?_⟩|exact Ao.refl _|exact Ao.of_eq (by simp[Aq.Ay,WX,Xi,WR])));done))) ?_ ?_
    .intro m hm _;have hs2:=za Pf.full (Wi hm);have hb:=hpl m (by omega);have hc:=ih p.args[m] (if m+1=p.args.length then v+As p.kind else v) (if m+1=p.args.length then y+At p.kind else y) (X1++((Pf.AM (Dg) y (At p.kind) p.args).take m).flatten) (by omega) (by omega) (by split<;>omega) (by split<;>omega) (hpf _ (Wi hm));have e3:(X1++((Pf.AM (Dg) y (At p.kind) p.args).take m).flatten)++p.args[m].Cv (Dg) (if m+1=p.args.length then y+At p.kind else y)=(X1++((Pf.AM (Dg) y (At p.kind) p.args).take (m+1)).flatten):=by rw[Wr,IX (Dg) hm]
     rw[e3] at hc;have ev:(if(m:Int)=(x5:Int)-1 then y+At p.kind else y)=(if m+1=p.args.length then y+At p.kind else y):=by
      by_cases hx:m+1=p.args.length
      .rw[if_pos hx,if_pos (by omega)]
      .rw[if_neg hx,if_neg (by omega)]
     have ev2:(if(m:Int)=(x5:Int)-1 then v+As p.kind else v)=(if m+1=p.args.length then v+As p.kind else v):=by
      by_cases hx:m+1=p.args.length
      .rw[if_pos hx,if_pos (by omega)]
      .rw[if_neg hx,if_neg (by omega)]
     rw[ev,ev2] at hb;(repeat' first|refine M.gw ?_|refine M.c2 (hb) ?_|refine M.cv (hc) [0] 0 ?_|fail);exact⟨rfl,trivial,(M.W [some 0,some 1,some 2,some 3,some 4])⟩
    .intro _;rw[hre];simp only[IL];skip
     (exact M.n2 [some 0] (h6:=(by(repeat'(first|exact trivial|refine And.intro ?_ ?_|refine⟨_,U,_,U,_,U,?_⟩|exact Ao.of_eq (by simp[Aq.Ay,hX1,Wr])));done)) (h8:=(by simp[zk,V.wk,V.Ap,zc,Ty.view,Tm.view,hX1,Wr])))
 .refine M.F Tryz.func94 ?_;(repeat' first|refine M.gw ?_|refine M.c2 (hru) ?_|refine M.cv (hlf) [0] 0 ?_|fail);refine AW.range p.terms.length (fun m=>True)
   (fun m=>([(3,.ptr 1 0),(4,.ptr 2 0),(5,.ptr 3 0),(6,.ptr 4 0),(33,.s .tm p.terms),(34,.i p.terms.length),(35,.i m)],⟨5,[(0,.var [.bool (X1.all id)]),(1,.var p.view),(2,.var [.i v,.i y]),(3,.var [.nilf,.nilf,.fn (.func 129) [] [.ptr 0 0]]),(4,.var [.bool true,.bool x2,.i x3,.i x4,.i x5,.i (Aw p.kind),.i (As p.kind),.i (At p.kind)])]⟩))
   (by omega) (fun m=>rfl) (fun m=>rfl) U trivial (M.W [some 0,some 1,some 2,some 3,some 4] (he:=(by(repeat'(first|exact trivial|refine And.intro ?_ ?_|refine⟨_,U,_,U,_,U,?_⟩|exact Ao.refl _|exact Ao.of_eq (by simp[Aq.Ay,hX1])));done))) ?_ ?_
  .intro m hm _;(repeat' first|refine M.gw ?_|fail);exact⟨rfl,trivial,(M.W [some 0,some 1,some 2,some 3,some 4])⟩
  .intro _;skip;(repeat' first|refine M.gw ?_|fail);refine AW.range p.Ac.length (fun m=>True)
    (fun m=>([(3,.ptr 1 0),(4,.ptr 2 0),(5,.ptr 3 0),(6,.ptr 4 0),(50,.s .fm p.Ac),(51,.i p.Ac.length),(52,.i m)],⟨5,[(0,.var [.bool (X1.all id)]),(1,.var p.view),(2,.var [.i v,.i y]),(3,.var [.nilf,.nilf,.fn (.func 129) [] [.ptr 0 0]]),(4,.var [.bool true,.bool x2,.i x3,.i x4,.i x5,.i (Aw p.kind),.i (As p.kind),.i (At p.kind)])]⟩))
    (by omega) (fun m=>rfl) (fun m=>rfl) rfl trivial (M.W [some 0,some 1,some 2,some 3,some 4]) ?_ ?_
   .intro m hm _;(repeat' first|refine M.gw ?_|fail);exact⟨rfl,trivial,(M.W [some 0,some 1,some 2,some 3,some 4])⟩
   .intro _;skip;(repeat' first|refine M.gw ?_|fail);refine AW.range p.args.length (fun m=>True)
     (fun m=>([(3,.ptr 1 0),(4,.ptr 2 0),(5,.ptr 3 0),(6,.ptr 4 0),(70,.s .pf p.args),(71,.i p.args.length),(72,.i m)],⟨5,[(0,.var [.bool ((X1++((Pf.AM (Dg) y (At p.kind) p.args).take m).flatten).all id)]),(1,.var p.view),(2,.var [.i v,.i y]),(3,.var [.nilf,.nilf,.fn (.func 129) [] [.ptr 0 0]]),(4,.var [.bool true,.bool x2,.i x3,.i x4,.i x5,.i (Aw p.kind),.i (As p.kind),.i (At p.kind)])]⟩))
     (by omega) (fun m=>rfl) (fun m=>rfl) U trivial (M.W [some 0,some 1,some 2,some 3,some 4] (he:=(by(repeat'(first|exact trivial|refine And.intro ?_ ?_|refine⟨_,U,_,U,_,U,?_⟩|exact Ao.refl _|exact Ao.of_eq (by simp[Aq.Ay,WX,Xi,WR])));done))) ?_ ?_
    .intro m hm _;have hs2:=za Pf.full (Wi hm);have hb:=hpl m (by omega);have hc:=ih p.args[m] (if m+1=p.args.length then v+As p.kind else v) (if m+1=p.args.length then y+At p.kind else y) (X1++((Pf.AM (Dg) y (At p.kind) p.args).take m).flatten) (by omega) (by omega) (by split<;>omega) (by split<;>omega) (hpf _ (Wi hm));have e3:(X1++((Pf.AM (Dg) y (At p.kind) p.args).take m).flatten)++p.args[m].Cv (Dg) (if m+1=p.args.length then y+At p.kind else y)=(X1++((Pf.AM (Dg) y (At p.kind) p.args).take (m+1)).flatten):=by rw[Wr,IX (Dg) hm]
     rw[e3] at hc;have ev:(if(m:Int)=(x5:Int)-1 then y+At p.kind else y)=(if m+1=p.args.length then y+At p.kind else y):=by
      by_cases hx:m+1=p.args.length
      .rw[if_pos hx,if_pos (by omega)]
      .rw[if_neg hx,if_neg (by omega)]
     have ev2:(if(m:Int)=(x5:Int)-1 then v+As p.kind else v)=(if m+1=p.args.length then v+As p.kind else v):=by
      by_cases hx:m+1=p.args.length
      .rw[if_pos hx,if_pos (by omega)]
      .rw[if_neg hx,if_neg (by omega)]
     rw[ev,ev2] at hb;(repeat' first|refine M.gw ?_|refine M.c2 (hb) ?_|refine M.cv (hc) [0] 0 ?_|fail);exact⟨rfl,trivial,(M.W [some 0,some 1,some 2,some 3,some 4])⟩
    .intro _;rw[hre];simp only[IL];skip
     (exact M.n2 [some 0] (h6:=(by(repeat'(first|exact trivial|refine And.intro ?_ ?_|refine⟨_,U,_,U,_,U,?_⟩|exact Ao.of_eq (by simp[Aq.Ay,hX1,Wr])));done)) (h8:=(by simp[zk,V.wk,V.Ap,zc,Ty.view,Tm.view,hX1,Wr])))
theorem Qu(a:Int)(Xs:List Int)(p:Pf)(v y:Int)(hp:p.kind=1->0<=p.index/\p.index<9223372036854775808)(hy:0<=y/\y<100000000000)(hl:Xs.length<=2000000000):
 AC E 223 [.agg p.view,.agg [.i v,.i y],.ptr 0 0,.ptr 1 0] ⟨2,[(0,.var [.i a]),(1,.var [.i Xs.length])]⟩ (.AD []) ⟨2,[(0,.var [.i a]),(1,.var [.i (Xs++vj a p.kind p.index y).length])]⟩:=by
 rw[WD];unfold vj;by_cases h0:p.kind=1;case neg=>
  rw[if_neg (fun h=>h0 h.1)];refine M.F Tryz.func223 ?_;(repeat' first|refine M.gw ?_|refine M.gs ?_ ?_<;>intro h|refine M.cs ?_ ?_<;>intro h|fail);all_goals first|exfalso;simp_all;done|exact M.n2 [some 0,some 1] (h8:=(by simp[zk,V.wk,V.Ap,zc,Ty.view,Tm.view,W3]))
 have hp:=hp h0;by_cases h1:p.kind=1/\p.index-y=a
 .rw[if_pos h1];refine M.F Tryz.func223 ?_;(repeat' first|refine M.gw ?_|refine M.gs ?_ ?_<;>intro h|refine M.cs ?_ ?_<;>intro h|fail);all_goals first|exfalso;simp_all;done|exact M.n2 [some 0,some 1] (h8:=(by simp[zk,V.wk,V.Ap,zc,Ty.view,Tm.view,Wy,W3]))
 .rw[if_neg h1];refine M.F Tryz.func223 ?_;(repeat' first|refine M.gw ?_|refine M.gs ?_ ?_<;>intro h|refine M.cs ?_ ?_<;>intro h|fail);all_goals first|exfalso;apply h1;simp_all;done|exfalso;simp_all;done|exact M.n2 [some 0,some 1] (h8:=(by simp[zk,V.wk,V.Ap,zc,Ty.view,Tm.view,W3]))
theorem Ygi(a:Int):∀(n:Nat) (p:Pf) (v y:Int) (Xs:List Int),p.full<=n->n<10000000000->(0<=v/\v+2*n<=50000000000)->(0<=y/\y+2*n<=50000000000)->p.nd->p.hx 9223372036854775808->(Xs++p.Cv (vj a) y).length<=2000000000->
 AC E 94 [.agg p.view,.agg [.i v,.i y],.agg [.nilf,.nilf,.fn (.func 223) [] [.ptr 0 0,.ptr 1 0]]] ⟨2,[(0,.var [.i a]),(1,.var [.i (Xs).length])]⟩ (.AD []) ⟨2,[(0,.var [.i a]),(1,.var [.i ((Xs++p.Cv (vj a) y)).length])]⟩:=by
 intro n;induction n with
 |zero=>intro p v y Xs hz;have:=p.Aa;omega
 |succ n ih=>
 intro p v y Xs hz hn hv hh hs hhx hxl;obtain⟨i1,i2⟩:=(Pf.A8 _ p).1 hhx;have hka:0<p.args.length->p.kind≠1:=fun h0 e=>by
  obtain⟨⟨nd0,a1,a2⟩,_⟩:=(Pf.BK p).1 hs;rw[e] at a1;simp[BD] at a1;rw[<-a1] at a2;simp at a2;simp[a2] at h0
 have hxl2:=hxl;rw[p.BG (vj a) y,<-Wr] at hxl2;have hre:=p.BG (vj a) y;have hsz':=p.Af;have hlen:=zd Pf.full Pf.Aa p.args;have hlen1:=zd Fm.full Fm.Aa p.Ac;have hlen2:=zd Tm.full Tm.Aa p.terms;have hru:=vd p.kind;obtain⟨⟨nd,n1,n4⟩,hpf⟩:=(Pf.BK p).1 hs;have hal:p.args.length<=2:=by
  rw[n4];unfold BD at n1
  repeat(split at n1;· cases n1;decide)
  cases n1
 have hpl:=fun(m:Nat) (hm:m<=1000000)=>y3 p.kind v y nd n1 m hm (by omega) (by omega);have e2:C0 p.kind=[.bool nd.index,.bool nd.typ,.i nd.terms,.i nd.Ac,.i nd.args,.i (Aw p.kind),.i (As p.kind),.i (At p.kind)]:=by unfold C0;rw[n1]
 have b1:0<=As p.kind/\As p.kind<=2:=by unfold As;split<;>(try split)<;>omega
 have b2:0<=At p.kind/\At p.kind<=1:=by unfold At;split<;>omega
 have b3:0<=Aw p.kind/\Aw p.kind<=1:=by unfold Aw;split<;>omega
 rw[n1] at hru;simp only[Xf] at hru;rw[e2] at hru;simp only[e2] at hpl;have hlf:=Qu a Xs p v y i1 (by omega) (by rw[WD] at hxl;omega);have hno:nd.index=false->(vj a) p.kind p.index y=[]:=fun hi=>by
  have k1:p.kind≠1:=fun e=>by rw[e] at n1;simp[BD] at n1;rw[<-n1] at hi;cases hi
  have k2:p.kind≠2:=fun e=>by rw[e] at n1;simp[BD] at n1;rw[<-n1] at hi;cases hi
  simp[Dg,vj,Tb,k1,k2]
 obtain⟨X1,hX1⟩:∃X1,X1=Xs++(vj a) p.kind p.index y:=⟨_,rfl⟩;obtain⟨x3,x4,x5,ix,x2⟩:=nd;simp only at n4 hru hpl hno;cases ix
 .have hX:X1=Xs:=by rw[hX1,hno rfl,WR]
  refine M.F Tryz.func94 ?_;(repeat' first|refine M.gw ?_|refine M.c2 (hru) ?_|fail);refine AW.range p.terms.length (fun m=>True)
   (fun m=>([(3,.ptr 2 0),(4,.ptr 3 0),(5,.ptr 4 0),(6,.ptr 5 0),(33,.s .tm p.terms),(34,.i p.terms.length),(35,.i m)],⟨6,[(0,.var [.i a]),(1,.var [.i (X1).length]),(2,.var p.view),(3,.var [.i v,.i y]),(4,.var [.nilf,.nilf,.fn (.func 223) [] [.ptr 0 0,.ptr 1 0]]),(5,.var [.bool false,.bool x2,.i x3,.i x4,.i x5,.i (Aw p.kind),.i (As p.kind),.i (At p.kind)])]⟩))
   (by omega) (fun m=>rfl) (fun m=>rfl) U trivial (M.W [some 0,some 1,some 2,some 3,some 4,some 5] (he:=(by(repeat'(first|exact trivial|refine And.intro ?_ ?_|refine⟨_,U,_,U,_,U,?_⟩|exact Ao.refl _|exact Ao.of_eq (by simp[Aq.Ay,hX])));done))) ?_ ?_
  .intro m hm _;(repeat' first|refine M.gw ?_|fail);exact⟨rfl,trivial,(M.W [some 0,some 1,some 2,some 3,some 4,some 5])⟩
  .intro _;skip;(repeat' first|refine M.gw ?_|fail);refine AW.range p.Ac.length (fun m=>True)
    (fun m=>([(3,.ptr 2 0),(4,.ptr 3 0),(5,.ptr 4 0),(6,.ptr 5 0),(50,.s .fm p.Ac),(51,.i p.Ac.length),(52,.i m)],⟨6,[(0,.var [.i a]),(1,.var [.i (X1).length]),(2,.var p.view),(3,.var [.i v,.i y]),(4,.var [.nilf,.nilf,.fn (.func 223) [] [.ptr 0 0,.ptr 1 0]]),(5,.var [.bool false,.bool x2,.i x3,.i x4,.i x5,.i (Aw p.kind),.i (As p.kind),.i (At p.kind)])]⟩))
    (by omega) (fun m=>rfl) (fun m=>rfl) rfl trivial (M.W [some 0,some 1,some 2,some 3,some 4,some 5]) ?_ ?_
   .intro m hm _;(repeat' first|refine M.gw ?_|fail);exact⟨rfl,trivial,(M.W [some 0,some 1,some 2,some 3,some 4,some 5])⟩
   .intro _;skip;(repeat' first|refine M.gw ?_|fail);refine AW.range p.args.length (fun m=>True)
     (fun m=>([(3,.ptr 2 0),(4,.ptr 3 0),(5,.ptr 4 0),(6,.ptr 5 0),(70,.s .pf p.args),(71,.i p.args.length),(72,.i m)],⟨6,[(0,.var [.i a]),(1,.var [.i ((X1++((Pf.AM (vj a) y (At p.kind) p.args).take m).flatten)).length]),(2,.var p.view),(3,.var [.i v,.i y]),(4,.var [.nilf,.nilf,.fn (.func 223) [] [.ptr 0 0,.ptr 1 0]]),(5,.var [.bool false,.bool x2,.i x3,.i x4,.i x5,.i (Aw p.kind),.i (As p.kind),.i (At p.kind)])]⟩))
     (by omega) (fun m=>rfl) (fun m=>rfl) U trivial (M.W [some 0,some 1,some 2,some 3,some 4,some 5] (he:=(by(repeat'(first|exact trivial|refine And.intro ?_ ?_|refine⟨_,U,_,U,_,U,?_⟩|exact Ao.refl _|exact Ao.of_eq (by simp[Aq.Ay,WX,Xi,WR])));done))) ?_ ?_
    .intro m hm _;have hs2:=za Pf.full (Wi hm);have hb:=hpl m (by omega);have hc:=ih p.args[m] (if m+1=p.args.length then v+As p.kind else v) (if m+1=p.args.length then y+At p.kind else y) (X1++((Pf.AM (vj a) y (At p.kind) p.args).take m).flatten) (by omega) (by omega) (by split<;>omega) (by split<;>omega) (hpf _ (Wi hm)) (i2 (hka (by omega)) _ (Wi hm)) (by have h9:=(MW X1 (Pf.AM (vj a) y (At p.kind) p.args) m (by rw[vz];exact hm)).length_le;rw[um _ _ _ _ _ hm] at h9;rw[hX1] at h9 ⊢;omega);have e3:(X1++((Pf.AM (vj a) y (At p.kind) p.args).take m).flatten)++p.args[m].Cv (vj a) (if m+1=p.args.length then y+At p.kind else y)=(X1++((Pf.AM (vj a) y (At p.kind) p.args).take (m+1)).flatten):=by rw[Wr,IX (vj a) hm]
     rw[e3] at hc;have ev:(if(m:Int)=(x5:Int)-1 then y+At p.kind else y)=(if m+1=p.args.length then y+At p.kind else y):=by
      by_cases hx:m+1=p.args.length
      .rw[if_pos hx,if_pos (by omega)]
      .rw[if_neg hx,if_neg (by omega)]
     have ev2:(if(m:Int)=(x5:Int)-1 then v+As p.kind else v)=(if m+1=p.args.length then v+As p.kind else v):=by
      by_cases hx:m+1=p.args.length
      .rw[if_pos hx,if_pos (by omega)]
      .rw[if_neg hx,if_neg (by omega)]
     rw[ev,ev2] at hb;(repeat' first|refine M.gw ?_|refine M.c2 (hb) ?_|refine M.cv (hc) [0,1] 0 ?_|fail);exact⟨rfl,trivial,(M.W [some 0,some 1,some 2,some 3,some 4,some 5])⟩
    .intro _;rw[hre];simp only[IL];skip
     (exact M.n2 [some 0,some 1] (h6:=(by(repeat'(first|exact trivial|refine And.intro ?_ ?_|refine⟨_,U,_,U,_,U,?_⟩|exact Ao.refl _|exact Ao.of_eq (by simp[Aq.Ay,hX1,Wr])));done)) (h8:=(by simp[zk,V.wk,V.Ap,zc,Ty.view,Tm.view,hX1,Wr])))
 .refine M.F Tryz.func94 ?_;(repeat' first|refine M.gw ?_|refine M.c2 (hru) ?_|refine M.cv (hlf) [0,1] 0 ?_|fail);refine AW.range p.terms.length (fun m=>True)
   (fun m=>([(3,.ptr 2 0),(4,.ptr 3 0),(5,.ptr 4 0),(6,.ptr 5 0),(33,.s .tm p.terms),(34,.i p.terms.length),(35,.i m)],⟨6,[(0,.var [.i a]),(1,.var [.i (X1).length]),(2,.var p.view),(3,.var [.i v,.i y]),(4,.var [.nilf,.nilf,.fn (.func 223) [] [.ptr 0 0,.ptr 1 0]]),(5,.var [.bool true,.bool x2,.i x3,.i x4,.i x5,.i (Aw p.kind),.i (As p.kind),.i (At p.kind)])]⟩))
   (by omega) (fun m=>rfl) (fun m=>rfl) U trivial (M.W [some 0,some 1,some 2,some 3,some 4,some 5] (he:=(by(repeat'(first|exact trivial|refine And.intro ?_ ?_|refine⟨_,U,_,U,_,U,?_⟩|exact Ao.refl _|exact Ao.of_eq (by simp[Aq.Ay,hX1])));done))) ?_ ?_
  .intro m hm _;(repeat' first|refine M.gw ?_|fail);exact⟨rfl,trivial,(M.W [some 0,some 1,some 2,some 3,some 4,some 5])⟩
  .intro _;skip;(repeat' first|refine M.gw ?_|fail);refine AW.range p.Ac.length (fun m=>True)
    (fun m=>([(3,.ptr 2 0),(4,.ptr 3 0),(5,.ptr 4 0),(6,.ptr 5 0),(50,.s .fm p.Ac),(51,.i p.Ac.length),(52,.i m)],⟨6,[(0,.var [.i a]),(1,.var [.i (X1).length]),(2,.var p.view),(3,.var [.i v,.i y]),(4,.var [.nilf,.nilf,.fn (.func 223) [] [.ptr 0 0,.ptr 1 0]]),(5,.var [.bool true,.bool x2,.i x3,.i x4,.i x5,.i (Aw p.kind),.i (As p.kind),.i (At p.kind)])]⟩))
    (by omega) (fun m=>rfl) (fun m=>rfl) rfl trivial (M.W [some 0,some 1,some 2,some 3,some 4,some 5]) ?_ ?_
   .intro m hm _;(repeat' first|refine M.gw ?_|fail);exact⟨rfl,trivial,(M.W [some 0,some 1,some 2,some 3,some 4,some 5])⟩
   .intro _;skip;(repeat' first|refine M.gw ?_|fail);refine AW.range p.args.length (fun m=>True)
     (fun m=>([(3,.ptr 2 0),(4,.ptr 3 0),(5,.ptr 4 0),(6,.ptr 5 0),(70,.s .pf p.args),(71,.i p.args.length),(72,.i m)],⟨6,[(0,.var [.i a]),(1,.var [.i ((X1++((Pf.AM (vj a) y (At p.kind) p.args).take m).flatten)).length]),(2,.var p.view),(3,.var [.i v,.i y]),(4,.var [.nilf,.nilf,.fn (.func 223) [] [.ptr 0 0,.ptr 1 0]]),(5,.var [.bool true,.bool x2,.i x3,.i x4,.i x5,.i (Aw p.kind),.i (As p.kind),.i (At p.kind)])]⟩))
     (by omega) (fun m=>rfl) (fun m=>rfl) U trivial (M.W [some 0,some 1,some 2,some 3,some 4,some 5] (he:=(by(repeat'(first|exact trivial|refine And.intro ?_ ?_|refine⟨_,U,_,U,_,U,?_⟩|exact Ao.refl _|exact Ao.of_eq (by simp[Aq.Ay,WX,Xi,WR])));done))) ?_ ?_
    .intro m hm _;have hs2:=za Pf.full (Wi hm);have hb:=hpl m (by omega);have hc:=ih p.args[m] (if m+1=p.args.length then v+As p.kind else v) (if m+1=p.args.length then y+At p.kind else y) (X1++((Pf.AM (vj a) y (At p.kind) p.args).take m).flatten) (by omega) (by omega) (by split<;>omega) (by split<;>omega) (hpf _ (Wi hm)) (i2 (hka (by omega)) _ (Wi hm)) (by have h9:=(MW X1 (Pf.AM (vj a) y (At p.kind) p.args) m (by rw[vz];exact hm)).length_le;rw[um _ _ _ _ _ hm] at h9;rw[hX1] at h9 ⊢;omega);have e3:(X1++((Pf.AM (vj a) y (At p.kind) p.args).take m).flatten)++p.args[m].Cv (vj a) (if m+1=p.args.length then y+At p.kind else y)=(X1++((Pf.AM (vj a) y (At p.kind) p.args).take (m+1)).flatten):=by rw[Wr,IX (vj a) hm]
     rw[e3] at hc;have ev:(if(m:Int)=(x5:Int)-1 then y+At p.kind else y)=(if m+1=p.args.length then y+At p.kind else y):=by
      by_cases hx:m+1=p.args.length
      .rw[if_pos hx,if_pos (by omega)]
      .rw[if_neg hx,if_neg (by omega)]
     have ev2:(if(m:Int)=(x5:Int)-1 then v+As p.kind else v)=(if m+1=p.args.length then v+As p.kind else v):=by
      by_cases hx:m+1=p.args.length
      .rw[if_pos hx,if_pos (by omega)]
      .rw[if_neg hx,if_neg (by omega)]
     rw[ev,ev2] at hb;(repeat' first|refine M.gw ?_|refine M.c2 (hb) ?_|refine M.cv (hc) [0,1] 0 ?_|fail);exact⟨rfl,trivial,(M.W [some 0,some 1,some 2,some 3,some 4,some 5])⟩
    .intro _;rw[hre];simp only[IL];skip
     (exact M.n2 [some 0,some 1] (h6:=(by(repeat'(first|exact trivial|refine And.intro ?_ ?_|refine⟨_,U,_,U,_,U,?_⟩|exact Ao.refl _|exact Ao.of_eq (by simp[Aq.Ay,hX1,Wr])));done)) (h8:=(by simp[zk,V.wk,V.Ap,zc,Ty.view,Tm.view,hX1,Wr])))
end Go.Ab
