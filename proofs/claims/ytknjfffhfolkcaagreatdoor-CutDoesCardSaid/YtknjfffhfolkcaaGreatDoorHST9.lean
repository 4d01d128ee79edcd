/- A part of this seat's proofs. No conditions. -/
import Derived.Test.YtknjfffhfolkcaaGreatDoorHST7
import Derived.Test.YtknjfffhfolkcaaGreatDoorHST8
namespace Go.Ab
open Go Go.Proofs
set_option maxRecDepth 100000
set_option maxHeartbeats 4000000
set_option linter.all false
theorem Yj1(a:Int)(s:Tm)(ha:0<=a/\a<100000000000)(hs:s.full<274877906944)(hsi:∀p∈s.vars 0,0<=p.1/\p.1<549755813888)(t:Tm)(bl:Int)(ht:t.full<274877906944)(hb:0<=bl/\bl<100000000000)(hix:∀p∈t.vars 0,0<=p.1/\p.1<549755813888):
 AC E 230 [.agg t.view,.i bl,.ptr 0 0,.ptr 1 0] ⟨2,[(0,.var [.i a]),(1,.var s.view)]⟩ (.agg (t.re (y9 (a+bl) s) 0).view) ⟨2,[(0,.var [.i a]),(1,.var s.view)]⟩:=by
 have hc:=SM t (a+bl) s (by omega) hs hsi ht hix;generalize t.re (y9 (a+bl) s) 0=u at*;refine M.F Tryz.func230 ?_;(repeat' first|refine M.gw ?_|refine M.c2 (hc) ?_|fail)
 (exact M.n2 [some 0,some 1] (h8:=(by simp[zk,V.wk,V.Ap,zc,Ty.view,Tm.view,hc])))
theorem Yj5(a:Int)(s:Tm)(ha:0<=a/\a<100000000000)(hs:s.full<274877906944)(hsi:∀p∈s.vars 0,0<=p.1/\p.1<549755813888)(f:Fm)(bl:Int)(ht:f.full<137438953472)(hb:0<=bl/\bl<100000000000)(hix:∀p∈f.AZ 0,∀q∈p.1.vars 0,0<=q.1/\q.1<549755813888):
 AC E 232 [.agg f.view,.i bl,.ptr 0 0,.ptr 1 0] ⟨2,[(0,.var [.i a]),(1,.var s.view)]⟩ (.agg (f.put (a+bl) s).view) ⟨2,[(0,.var [.i a]),(1,.var s.view)]⟩:=by
 have hc:=Yem f (a+bl) s (by omega) hs hsi ht hix;generalize f.put (a+bl) s=F at*;refine M.F Tryz.func232 ?_;(repeat' first|refine M.gw ?_|refine M.c2 (hc) ?_|fail)
 (exact M.n2 [some 0,some 1] (h8:=(by simp[zk,V.wk,V.Ap,zc,Ty.view,Tm.view,Fm.view])))
theorem Yh3(a:Int)(s:Tm)(ha:0<=a/\a<10000000000)(hs0:s.full<274877906944)(hsi:∀p∈s.vars 0,0<=p.1/\p.1<549755813888):∀(n:Nat) (p:Pf) (v y:Int),p.full<=n->n<10000000000->(0<=v/\v+2*n<=50000000000)->(0<=y/\y+2*n<=50000000000)->p.nd->p.ix 549755813888->
 AC E 97 [.agg p.view,.agg [.i v,.i y],.agg [.fn (.func 230) [] [.ptr 0 0,.ptr 1 0],.fn (.func 232) [] [.ptr 0 0,.ptr 1 0],.nilf]] ⟨2,[(0,.var [.i a]),(1,.var s.view)]⟩ (.agg (p.pt a s v).view) ⟨2,[(0,.var [.i a]),(1,.var s.view)]⟩:=by
 intro n;induction n with
 |zero=>intro p v y hz;have:=p.Aa;omega
 |succ n ih=>
 intro p v y hz hn hv hh hs hix;obtain⟨i1,i2,i3⟩:=(Pf.AY _ p).1 hix;have hre:=p.Dp a s v;have hsz':=p.Af;have hlen:=zd Pf.full Pf.Aa p.args;have hlen1:=zd Fm.full Fm.Aa p.Ac;have hlen2:=zd Tm.full Tm.Aa p.terms;have hty:=uk _ p.ty (Wj _) (by omega);have hru:=vd p.kind;obtain⟨⟨nd,n1,n4⟩,hpf⟩:=(Pf.BK p).1 hs;have hal:p.args.length<=2:=by
  rw[n4];unfold BD at n1
  repeat(split at n1;· cases n1;decide)
  cases n1
 have hpl:=fun(m:Nat) (hm:m<=1000000)=>y3 p.kind v y nd n1 m hm (by omega) (by omega);have e2:C0 p.kind=[.bool nd.index,.bool nd.typ,.i nd.terms,.i nd.Ac,.i nd.args,.i (Aw p.kind),.i (As p.kind),.i (At p.kind)]:=by unfold C0;rw[n1]
 have b1:0<=As p.kind/\As p.kind<=2:=by unfold As;split<;>(try split)<;>omega
 have b2:0<=At p.kind/\At p.kind<=1:=by unfold At;split<;>omega
 have b3:0<=Aw p.kind/\Aw p.kind<=1:=by unfold Aw;split<;>omega
 rw[n1] at hru;simp only[Xf] at hru;rw[e2] at hru;simp only[e2] at hpl;refine M.F Tryz.func97 ?_;(repeat' first|refine M.gw ?_|refine M.c2 (hru) ?_|refine M.c2 (hty) ?_|refine M.gs ?_ ?_<;>intro h|fail);all_goals
  refine AW.range p.terms.length (fun m=>True)
   (fun m=>([(3,.ptr 2 0),(4,.ptr 3 0),(5,.ptr 4 0),(6,.ptr 5 0),(7,.ptr 6 0),(9,.ptr 7 0),(44,.s .tm p.terms),(45,.i p.terms.length),(46,.i m)],⟨9,[(0,.var [.i a]),(1,.var s.view),(2,.var p.view),(3,.var [.i v,.i y]),(4,.var [.fn (.func 230) [] [.ptr 0 0,.ptr 1 0],.fn (.func 232) [] [.ptr 0 0,.ptr 1 0],.nilf]),(5,.var [.i 0,.i 0,.i 0,.slice .nil (.t .ty []),.slice .nil (.t .tm []),.slice .nil (.t .fm []),.slice .nil (.t .pf [])]),(6,.var [.bool nd.index,.bool nd.typ,.i nd.terms,.i nd.Ac,.i nd.args,.i (Aw p.kind),.i (As p.kind),.i (At p.kind)]),(7,.var [.i p.kind,.i p.index,.i p.ty.kind,.s .ty p.ty.args,.slice (.own 8) (.t .tm ((p.terms.take m).map fun t=>t.re (y9 (a+v) s) 0)),.slice .nil (.t .fm []),.slice .nil (.t .pf [])]),(8,.row)]⟩))
   (by omega) (fun m=>rfl) (fun m=>rfl) rfl trivial (M.W [some 0,some 1,some 2,some 3,some 4,some 5,some 6,some 7,none]) ?_ ?_
  .intro m hm _;have hs2:=za Tm.full (Wi hm);have hc:=Yj1 a s (by omega) hs0 hsi p.terms[m] v (by omega) (by omega) (i1 _ (Wi hm));(repeat' first|refine M.gw ?_|refine M.cv (hc) [0,1] 0 ?_|fail);exact⟨rfl,trivial,(M.W [some 0,some 1,some 2,some 3,some 4,some 5,some 6,some 7,some 10] (he:=(by(repeat'(first|exact trivial|exact Or.inr ⟨_,U,rfl⟩|refine And.intro ?_ ?_|refine⟨_,U,_,U,_,U,?_⟩|exact Ao.refl _|exact Ao.of_eq (by simp[Aq.Ay,zy _ _ _ hm])));done)))⟩
  .intro _;simp only[Wp];(repeat' first|refine M.gw ?_|fail);refine AW.range p.Ac.length (fun m=>True)
    (fun m=>([(3,.ptr 2 0),(4,.ptr 3 0),(5,.ptr 4 0),(6,.ptr 5 0),(7,.ptr 6 0),(9,.ptr 7 0),(73,.s .fm p.Ac),(74,.i p.Ac.length),(75,.i m)],⟨10,[(0,.var [.i a]),(1,.var s.view),(2,.var p.view),(3,.var [.i v,.i y]),(4,.var [.fn (.func 230) [] [.ptr 0 0,.ptr 1 0],.fn (.func 232) [] [.ptr 0 0,.ptr 1 0],.nilf]),(5,.var [.i 0,.i 0,.i 0,.slice .nil (.t .ty []),.slice .nil (.t .tm []),.slice .nil (.t .fm []),.slice .nil (.t .pf [])]),(6,.var [.bool nd.index,.bool nd.typ,.i nd.terms,.i nd.Ac,.i nd.args,.i (Aw p.kind),.i (As p.kind),.i (At p.kind)]),(7,.var [.i p.kind,.i p.index,.i p.ty.kind,.s .ty p.ty.args,.slice (.own 8) (.t .tm (p.terms.map fun t=>t.re (y9 (a+v) s) 0)),.slice (.own 9) (.t .fm ((p.Ac.take m).map fun f=>f.put (a+(v+Aw p.kind)) s)),.slice .nil (.t .pf [])]),(8,.row),(9,.row)]⟩))
    (by omega) (fun m=>rfl) (fun m=>rfl) rfl trivial (M.W [some 0,some 1,some 2,some 3,some 4,some 5,some 6,some 7,some 8,none]) ?_ ?_
   .intro m hm _;have hs2:=za Fm.full (Wi hm);have hc:=Yj5 a s (by omega) hs0 hsi p.Ac[m] (v+Aw p.kind) (by omega) (by omega) (i2 _ (Wi hm));(repeat' first|refine M.gw ?_|refine M.cv (hc) [0,1] 0 ?_|fail);exact⟨rfl,trivial,(M.W [some 0,some 1,some 2,some 3,some 4,some 5,some 6,some 7,some 8,some 11] (he:=(by(repeat'(first|exact trivial|exact Or.inr ⟨_,U,rfl⟩|refine And.intro ?_ ?_|refine⟨_,U,_,U,_,U,?_⟩|exact Ao.refl _|exact Ao.of_eq (by simp[Aq.Ay,zy _ _ _ hm])));done)))⟩
   .intro _;simp only[Wp];(repeat' first|refine M.gw ?_|fail);refine AW.range p.args.length (fun m=>True)
     (fun m=>([(3,.ptr 2 0),(4,.ptr 3 0),(5,.ptr 4 0),(6,.ptr 5 0),(7,.ptr 6 0),(9,.ptr 7 0),(105,.s .pf p.args),(106,.i p.args.length),(107,.i m)],⟨11,[(0,.var [.i a]),(1,.var s.view),(2,.var p.view),(3,.var [.i v,.i y]),(4,.var [.fn (.func 230) [] [.ptr 0 0,.ptr 1 0],.fn (.func 232) [] [.ptr 0 0,.ptr 1 0],.nilf]),(5,.var [.i 0,.i 0,.i 0,.slice .nil (.t .ty []),.slice .nil (.t .tm []),.slice .nil (.t .fm []),.slice .nil (.t .pf [])]),(6,.var [.bool nd.index,.bool nd.typ,.i nd.terms,.i nd.Ac,.i nd.args,.i (Aw p.kind),.i (As p.kind),.i (At p.kind)]),(7,.var [.i p.kind,.i p.index,.i p.ty.kind,.s .ty p.ty.args,.slice (.own 8) (.t .tm (p.terms.map fun t=>t.re (y9 (a+v) s) 0)),.slice (.own 9) (.t .fm (p.Ac.map fun f=>f.put (a+(v+Aw p.kind)) s)),.slice (.own 10) (.t .pf ((Pf.pts a s v (As p.kind) p.args).take m))]),(8,.row),(9,.row),(10,.row)]⟩))
     (by omega) (fun m=>rfl) (fun m=>rfl) rfl trivial (M.W [some 0,some 1,some 2,some 3,some 4,some 5,some 6,some 7,some 8,some 9,none]) ?_ ?_
    .intro m hm _;have hs2:=za Pf.full (Wi hm);have hb:=hpl m (by omega);have hc:=ih p.args[m] (if m+1=p.args.length then v+As p.kind else v) (if(m:Int)=(nd.args:Int)-1 then y+At p.kind else y) (by omega) (by omega) (by split<;>omega) (by split<;>omega) (hpf _ (Wi hm)) (i3 _ (Wi hm));have ev:(if(m:Int)=(nd.args:Int)-1 then v+As p.kind else v)=(if m+1=p.args.length then v+As p.kind else v):=by
      by_cases hx:m+1=p.args.length
      .rw[if_pos hx,if_pos (by omega)]
      .rw[if_neg hx,if_neg (by omega)]
     rw[ev] at hb;(repeat' first|refine M.gw ?_|refine M.c2 (hb) ?_|refine M.cv (hc) [0,1] 0 ?_|fail);exact⟨rfl,trivial,(M.W [some 0,some 1,some 2,some 3,some 4,some 5,some 6,some 7,some 8,some 9,some 12] (he:=(by(repeat'(first|exact trivial|exact Or.inr ⟨_,U,rfl⟩|refine And.intro ?_ ?_|refine⟨_,U,_,U,_,U,?_⟩|exact Ao.refl _|exact Ao.of_eq (by simp[Aq.Ay,Ug hm])));done)))⟩
    .intro _;simp only[Vv];(repeat' first|refine M.gw ?_|fail);rw[hre]
     (exact M.n2 [some 0,some 1] (h8:=(by simp[zk,V.wk,V.Ap,zc,Ty.view,Tm.view,hre])))
theorem Yfv(p:Pf)(a:Int)(s:Tm)(ha:0<=a/\a<10000000000)(hs0:s.full<274877906944)(hsi:∀p∈s.vars 0,0<=p.1/\p.1<549755813888)(hp:p.full<5000000000)(hs:p.nd)(hix:p.ix 549755813888):
 PC E 206 [.agg p.view,.i a,.agg s.view] (.agg (p.pt a s 0).view):=by
 have hc:=Yh3 a s ha hs0 hsi _ p 0 0 (Wj _) (by omega) (by omega) (by omega) hs hix;generalize p.pt a s 0=P at*;refine M.F Tryz.func206 ?_;(repeat' first|refine M.gw ?_|refine M.cv (hc) [1,2] 0 ?_|fail);simp[zk,V.wk,V.Ap,zc,Ty.view,Tm.view]
theorem Po(a:Int)(q:Pf)(ha:0<=a/\a<10000000000)(hq:q.full<5000000000)(hqn:q.nd)(v y:Int)(hy:0<=y/\y<100000000000)(p:Pf)(hp:0<=p.index/\p.index<549755813888):
 AC E 224 [.agg p.view,.agg [.i v,.i y],.ptr 0 0,.ptr 1 0] ⟨2,[(0,.var [.i a]),(1,.var q.view)]⟩ (.agg (if p.index-y=a then q.F3 v (a+y) else if p.index-y>a then va (p.index-1) else va p.index).view) ⟨2,[(0,.var [.i a]),(1,.var q.view)]⟩:=by
 have h1:=NQ (p.index-1);have h2:=NQ p.index;have h3:=Ygy q 0 v (by omega) (by omega) hqn;have h4:=Ygr (q.uw 0 v 0) 0 (a+y) (by have:=Tq 0 v q 0;omega) (Yi8 0 v q hqn 0);have e:q.F3 v (a+y)=(q.uw 0 v 0).hw 0 (a+y) 0:=rfl;rw[<-e] at h4;generalize q.F3 v (a+y)=U at*;generalize q.uw 0 v 0=W at*;by_cases h0:p.index-y=a
 .rw[if_pos h0];refine M.F Tryz.func224 ?_;(repeat' first|refine M.gw ?_|refine M.c2 (h1) ?_|refine M.c2 (h2) ?_|refine M.c2 (h3) ?_|refine M.c2 (h4) ?_|refine M.bl ?_|refine M.cs ?_ ?_<;>intro h|fail);all_goals first|exfalso;simp at h;omega|exfalso;simp_all;done|exact M.n2 [some 0,some 1] (h8:=(by simp[zk,V.wk,V.Ap,zc,Ty.view,Tm.view,Pf.view]))
 rw[if_neg h0];by_cases h5:p.index-y>a
 .rw[if_pos h5];refine M.F Tryz.func224 ?_;(repeat' first|refine M.go ?_|refine M.c2 (h1) ?_|refine M.c2 (h2) ?_|refine M.z1 3 ?_|refine M.bl ?_|refine M.cs ?_ ?_<;>intro h|refine M.gk ?_|fail);all_goals first|exfalso;simp at h;omega|exfalso;simp at*;omega|exact M.n2 [some 0,some 1] (h8:=(by simp[zk,V.wk,V.Ap,zc,Ty.view,Tm.view,Pf.view,va]))
 .rw[if_neg h5];refine M.F Tryz.func224 ?_;(repeat' first|refine M.go ?_|refine M.c2 (h1) ?_|refine M.c2 (h2) ?_|refine M.z1 3 ?_|refine M.bl ?_|refine M.cs ?_ ?_<;>intro h|refine M.gk ?_|fail);all_goals first|exfalso;simp at h;omega|exfalso;simp at*;omega|exact M.n2 [some 0,some 1] (h8:=(by simp[zk,V.wk,V.Ap,zc,Ty.view,Tm.view,Pf.view,va]))
theorem Yhz(a:Int)(q:Pf)(ha:0<=a/\a<10000000000)(hq:q.full<5000000000)(hqn:q.nd):∀(n:Nat) (p:Pf) (v y:Int),p.full<=n->n<10000000000->(0<=v/\v+2*n<=50000000000)->(0<=y/\y+2*n<=50000000000)->p.nd->p.hx 549755813888->
 AC E 97 [.agg p.view,.agg [.i v,.i y],.agg [.nilf,.nilf,.fn (.func 224) [] [.ptr 0 0,.ptr 1 0]]] ⟨2,[(0,.var [.i a]),(1,.var q.view)]⟩ (.agg (Pf.ph a q v y p).view) ⟨2,[(0,.var [.i a]),(1,.var q.view)]⟩:=by
 intro n;induction n with
 |zero=>intro p v y hz;have:=p.Aa;omega
 |succ n ih=>
 intro p v y hz hn hv hh hs hhx;obtain⟨i1,i2⟩:=(Pf.A8 _ p).1 hhx;have hre:=Pf.EW a q v y p;by_cases hk:p.kind=1
 .rw[if_pos hk] at hre;rw[hre];have hc:=Po a q ha hq hqn v y (by omega) p (i1 hk);refine M.F Tryz.func97 ?_;(repeat' first|refine M.go ?_|refine M.cv (hc) [0,1] 0 ?_|refine M.gs ?_ ?_<;>intro h|refine M.z1 3 ?_|refine M.gk ?_|fail);all_goals first|exfalso;simp at h;omega|exfalso;simp_all;done|exact M.n2 [some 0,some 1] (h8:=(by simp[zk,V.wk,V.Ap,zc,Ty.view,Tm.view,Pf.view]))
 rw[if_neg hk] at hre;have hsz':=p.Af;have hlen:=zd Pf.full Pf.Aa p.args;have hlen1:=zd Fm.full Fm.Aa p.Ac;have hlen2:=zd Tm.full Tm.Aa p.terms;have hty:=uk _ p.ty (Wj _) (by omega);have hru:=vd p.kind;obtain⟨⟨nd,n1,n4⟩,hpf⟩:=(Pf.BK p).1 hs;have hal:p.args.length<=2:=by
  rw[n4];unfold BD at n1
  repeat(split at n1;· cases n1;decide)
  cases n1
 have hpl:=fun(m:Nat) (hm:m<=1000000)=>y3 p.kind v y nd n1 m hm (by omega) (by omega);have e2:C0 p.kind=[.bool nd.index,.bool nd.typ,.i nd.terms,.i nd.Ac,.i nd.args,.i (Aw p.kind),.i (As p.kind),.i (At p.kind)]:=by unfold C0;rw[n1]
 have b1:0<=As p.kind/\As p.kind<=2:=by unfold As;split<;>(try split)<;>omega
 have b2:0<=At p.kind/\At p.kind<=1:=by unfold At;split<;>omega
 have b3:0<=Aw p.kind/\Aw p.kind<=1:=by unfold Aw;split<;>omega
 rw[n1] at hru;simp only[Xf] at hru;rw[e2] at hru;simp only[e2] at hpl;refine M.F Tryz.func97 ?_;(repeat' first|refine M.go ?_|refine M.c2 (hru) ?_|refine M.c2 (hty) ?_|refine M.gs ?_ ?_<;>intro h|refine M.z1 5 ?_|refine M.gk ?_|fail);all_goals first
  |(exfalso;simp at h;omega)
  |skip
 (repeat' first|refine M.gw ?_|fail);all_goals
  refine AW.range p.terms.length (fun m=>True)
   (fun m=>([(3,.ptr 2 0),(4,.ptr 3 0),(5,.ptr 4 0),(6,.ptr 5 0),(7,.ptr 6 0),(9,.ptr 7 0),(44,.s .tm p.terms),(45,.i p.terms.length),(46,.i m)],⟨9,[(0,.var [.i a]),(1,.var q.view),(2,.var p.view),(3,.var [.i v,.i y]),(4,.var [.nilf,.nilf,.fn (.func 224) [] [.ptr 0 0,.ptr 1 0]]),(5,.var [.i 0,.i 0,.i 0,.slice .nil (.t .ty []),.slice .nil (.t .tm []),.slice .nil (.t .fm []),.slice .nil (.t .pf [])]),(6,.var [.bool nd.index,.bool nd.typ,.i nd.terms,.i nd.Ac,.i nd.args,.i (Aw p.kind),.i (As p.kind),.i (At p.kind)]),(7,.var [.i p.kind,.i p.index,.i p.ty.kind,.s .ty p.ty.args,.slice (.own 8) (.t .tm (p.terms.take m)),.slice .nil (.t .fm []),.slice .nil (.t .pf [])]),(8,.row)]⟩))
   (by omega) (fun m=>rfl) (fun m=>rfl) rfl trivial (M.W [some 0,some 1,some 2,some 3,some 4,some 5,some 6,some 7,none]) ?_ ?_
  .intro m hm _;have hs2:=za Tm.full (Wi hm);have hc:=Mo _ p.terms[m] (Wj _) (by omega);(repeat' first|refine M.gw ?_|refine M.c2 (hc) ?_|fail);exact⟨rfl,trivial,(M.W [some 0,some 1,some 2,some 3,some 4,some 5,some 6,some 7,some 10] (he:=(by(repeat'(first|exact trivial|exact Or.inr ⟨_,U,rfl⟩|refine And.intro ?_ ?_|refine⟨_,U,_,U,_,U,?_⟩|exact Ao.refl _|exact Ao.of_eq (by simp[Aq.Ay,Wv])));done)))⟩
  .intro _;simp only[Wp];(repeat' first|refine M.gw ?_|fail);refine AW.range p.Ac.length (fun m=>True)
    (fun m=>([(3,.ptr 2 0),(4,.ptr 3 0),(5,.ptr 4 0),(6,.ptr 5 0),(7,.ptr 6 0),(9,.ptr 7 0),(73,.s .fm p.Ac),(74,.i p.Ac.length),(75,.i m)],⟨10,[(0,.var [.i a]),(1,.var q.view),(2,.var p.view),(3,.var [.i v,.i y]),(4,.var [.nilf,.nilf,.fn (.func 224) [] [.ptr 0 0,.ptr 1 0]]),(5,.var [.i 0,.i 0,.i 0,.slice .nil (.t .ty []),.slice .nil (.t .tm []),.slice .nil (.t .fm []),.slice .nil (.t .pf [])]),(6,.var [.bool nd.index,.bool nd.typ,.i nd.terms,.i nd.Ac,.i nd.args,.i (Aw p.kind),.i (As p.kind),.i (At p.kind)]),(7,.var [.i p.kind,.i p.index,.i p.ty.kind,.s .ty p.ty.args,.slice (.own 8) (.t .tm (p.terms)),.slice (.own 9) (.t .fm (p.Ac.take m)),.slice .nil (.t .pf [])]),(8,.row),(9,.row)]⟩))
    (by omega) (fun m=>rfl) (fun m=>rfl) rfl trivial (M.W [some 0,some 1,some 2,some 3,some 4,some 5,some 6,some 7,some 8,none]) ?_ ?_
   .intro m hm _;have hs2:=za Fm.full (Wi hm);have hc:=Re p.Ac[m] (by omega);(repeat' first|refine M.gw ?_|refine M.c2 (hc) ?_|fail);exact⟨rfl,trivial,(M.W [some 0,some 1,some 2,some 3,some 4,some 5,some 6,some 7,some 8,some 11] (he:=(by(repeat'(first|exact trivial|exact Or.inr ⟨_,U,rfl⟩|refine And.intro ?_ ?_|refine⟨_,U,_,U,_,U,?_⟩|exact Ao.refl _|exact Ao.of_eq (by simp[Aq.Ay,Wv])));done)))⟩
   .intro _;simp only[Wp];(repeat' first|refine M.gw ?_|fail);refine AW.range p.args.length (fun m=>True)
     (fun m=>([(3,.ptr 2 0),(4,.ptr 3 0),(5,.ptr 4 0),(6,.ptr 5 0),(7,.ptr 6 0),(9,.ptr 7 0),(105,.s .pf p.args),(106,.i p.args.length),(107,.i m)],⟨11,[(0,.var [.i a]),(1,.var q.view),(2,.var p.view),(3,.var [.i v,.i y]),(4,.var [.nilf,.nilf,.fn (.func 224) [] [.ptr 0 0,.ptr 1 0]]),(5,.var [.i 0,.i 0,.i 0,.slice .nil (.t .ty []),.slice .nil (.t .tm []),.slice .nil (.t .fm []),.slice .nil (.t .pf [])]),(6,.var [.bool nd.index,.bool nd.typ,.i nd.terms,.i nd.Ac,.i nd.args,.i (Aw p.kind),.i (As p.kind),.i (At p.kind)]),(7,.var [.i p.kind,.i p.index,.i p.ty.kind,.s .ty p.ty.args,.slice (.own 8) (.t .tm (p.terms)),.slice (.own 9) (.t .fm (p.Ac)),.slice (.own 10) (.t .pf ((Pf.DA a q v y (As p.kind) (At p.kind) p.args).take m))]),(8,.row),(9,.row),(10,.row)]⟩))
     (by omega) (fun m=>rfl) (fun m=>rfl) rfl trivial (M.W [some 0,some 1,some 2,some 3,some 4,some 5,some 6,some 7,some 8,some 9,none]) ?_ ?_
    .intro m hm _;have hs2:=za Pf.full (Wi hm);have hb:=hpl m (by omega);have hc:=ih p.args[m] (if m+1=p.args.length then v+As p.kind else v) (if m+1=p.args.length then y+At p.kind else y) (by omega) (by omega) (by split<;>omega) (by split<;>omega) (hpf _ (Wi hm)) (i2 hk _ (Wi hm));have ev:(if(m:Int)=(nd.args:Int)-1 then y+At p.kind else y)=(if m+1=p.args.length then y+At p.kind else y):=by
      by_cases hx:m+1=p.args.length
      .rw[if_pos hx,if_pos (by omega)]
      .rw[if_neg hx,if_neg (by omega)]
     have ev2:(if(m:Int)=(nd.args:Int)-1 then v+As p.kind else v)=(if m+1=p.args.length then v+As p.kind else v):=by
      by_cases hx:m+1=p.args.length
      .rw[if_pos hx,if_pos (by omega)]
      .rw[if_neg hx,if_neg (by omega)]
     rw[ev,ev2] at hb;(repeat' first|refine M.gw ?_|refine M.c2 (hb) ?_|refine M.cv (hc) [0,1] 0 ?_|fail);exact⟨rfl,trivial,(M.W [some 0,some 1,some 2,some 3,some 4,some 5,some 6,some 7,some 8,some 9,some 12] (he:=(by(repeat'(first|exact trivial|exact Or.inr ⟨_,U,rfl⟩|refine And.intro ?_ ?_|refine⟨_,U,_,U,_,U,?_⟩|exact Ao.refl _|exact Ao.of_eq (by simp[Aq.Ay,Uo hm])));done)))⟩
    .intro _;simp only[R5];(repeat' first|refine M.gw ?_|fail);rw[hre]
     (exact M.n2 [some 0,some 1] (h8:=(by simp[zk,V.wk,V.Ap,zc,Ty.view,Tm.view,hre])))
theorem Yhd(p:Pf)(a:Int)(q:Pf)(ha:0<=a/\a<10000000000)(hq:q.full<5000000000)(hqn:q.nd)(hp:p.full<5000000000)(hs:p.nd)(hx:p.hx 549755813888):
 PC E 199 [.agg p.view,.i a,.agg q.view] (.agg (Pf.ph a q 0 0 p).view):=by
 have hc:=Yhz a q ha hq hqn _ p 0 0 (Wj _) (by omega) (by omega) (by omega) hs hx;generalize Pf.ph a q 0 0 p=P at*;refine M.F Tryz.func199 ?_;(repeat' first|refine M.gw ?_|refine M.cv (hc) [1,2] 0 ?_|fail);simp[zk,V.wk,V.Ap,zc,Ty.view,Tm.view]
theorem S7(Xs:List Bool)(t:Tm)(bl:Int)(ht:t.full<1099511627776):AC E 125 [.agg t.view,.i bl,.ptr 0 0] ⟨1,[(0,.var [.bool (Xs.all id)])]⟩ (.AD []) ⟨1,[(0,.var [.bool ((Xs++[t.near]).all id)])]⟩:=by
 have hc:=Mb t ht;have e:(Xs++[t.near]).all id=(Xs.all id&&t.near):=by simp[WQ]
 rw[e];generalize Xs.all id=b;generalize t.near=c at*;cases b;all_goals
  refine M.F Tryz.func125 ?_;(repeat' first|refine M.gw ?_|refine M.c2 (hc) ?_|fail)
  (exact M.n2 [some 0] (h8:=(by simp[zk,V.wk,V.Ap,zc,Ty.view,Tm.view,WZ,Xo])))
theorem RU(Xs:List Bool)(t:Fm)(bl:Int)(ht:t.full<274877906944):AC E 127 [.agg t.view,.i bl,.ptr 0 0] ⟨1,[(0,.var [.bool (Xs.all id)])]⟩ (.AD []) ⟨1,[(0,.var [.bool ((Xs++[t.near]).all id)])]⟩:=by
 have hc:=Yaf t ht;have e:(Xs++[t.near]).all id=(Xs.all id&&t.near):=by simp[WQ]
 rw[e];generalize Xs.all id=b;generalize t.near=c at*;cases b;all_goals
  refine M.F Tryz.func127 ?_;(repeat' first|refine M.gw ?_|refine M.c2 (hc) ?_|fail)
  (exact M.n2 [some 0] (h8:=(by simp[zk,V.wk,V.Ap,zc,Ty.view,Tm.view,WZ,Xo])))
theorem Yf7:∀(n:Nat) (p:Pf) (v y:Int) (Xs:List Bool),p.full<=n->n<10000000000->(0<=v/\v+2*n<=50000000000)->(0<=y/\y+2*n<=50000000000)->p.nd->
 AC E 94 [.agg p.view,.agg [.i v,.i y],.agg [.fn (.func 125) [] [.ptr 0 0],.fn (.func 127) [] [.ptr 0 0],.nilf]] ⟨1,[(0,.var [.bool (Xs.all id)])]⟩ (.AD []) ⟨1,[(0,.var [.bool ((Xs++p.Cm (fun(_:Int) (t:Tm)=>t.near) (fun(_:Int) (f:Fm)=>f.near) v).all id)])]⟩:=by
 intro n;induction n with
 |zero=>intro p v y Xs hz;have:=p.Aa;omega
 |succ n ih=>
 intro p v y Xs hz hn hv hh hs;have hre:=p.BE (fun(_:Int) (t:Tm)=>t.near) (fun(_:Int) (f:Fm)=>f.near) v;have hsz':=p.Af;have hlen:=zd Pf.full Pf.Aa p.args;have hlen1:=zd Fm.full Fm.Aa p.Ac;have hlen2:=zd Tm.full Tm.Aa p.terms;have hru:=vd p.kind;obtain⟨⟨nd,n1,n4⟩,hpf⟩:=(Pf.BK p).1 hs;have hal:p.args.length<=2:=by
  rw[n4];unfold BD at n1
  repeat(split at n1;· cases n1;decide)
  cases n1
 have hpl:=fun(m:Nat) (hm:m<=1000000)=>y3 p.kind v y nd n1 m hm (by omega) (by omega);have e2:C0 p.kind=[.bool nd.index,.bool nd.typ,.i nd.terms,.i nd.Ac,.i nd.args,.i (Aw p.kind),.i (As p.kind),.i (At p.kind)]:=by unfold C0;rw[n1]
 have b1:0<=As p.kind/\As p.kind<=2:=by unfold As;split<;>(try split)<;>omega
 have b2:0<=At p.kind/\At p.kind<=1:=by unfold At;split<;>omega
 have b3:0<=Aw p.kind/\Aw p.kind<=1:=by unfold Aw;split<;>omega
 rw[n1] at hru;simp only[Xf] at hru;rw[e2] at hru;simp only[e2] at hpl;clear n1 e2;obtain⟨x3,x4,x5,ix,x2⟩:=nd;simp only at n4 hru hpl;cases ix
 .refine M.F Tryz.func94 ?_;(repeat' first|refine M.gw ?_|refine M.c2 (hru) ?_|fail);refine AW.range p.terms.length (fun m=>True)
   (fun m=>([(3,.ptr 1 0),(4,.ptr 2 0),(5,.ptr 3 0),(6,.ptr 4 0),(33,.s .tm p.terms),(34,.i p.terms.length),(35,.i m)],⟨5,[(0,.var [.bool ((Xs++(p.terms.take m).map ((fun(_:Int) (t:Tm)=>t.near) v)).all id)]),(1,.var p.view),(2,.var [.i v,.i y]),(3,.var [.fn (.func 125) [] [.ptr 0 0],.fn (.func 127) [] [.ptr 0 0],.nilf]),(4,.var [.bool false,.bool x2,.i x3,.i x4,.i x5,.i (Aw p.kind),.i (As p.kind),.i (At p.kind)])]⟩))
   (by omega) (fun m=>rfl) (fun m=>rfl) U trivial (M.W [some 0,some 1,some 2,some 3,some 4] (he:=(by(repeat'(first|exact trivial|refine And.intro ?_ ?_|refine⟨_,U,_,U,_,U,?_⟩|exact Ao.refl _|exact Ao.of_eq (by simp[Aq.Ay,WX,WI,WR])));done))) ?_ ?_
  .intro m hm _;have hs2:=za Tm.full (Wi hm);have hc:=S7 (Xs++(p.terms.take m).map ((fun _ t=>t.near) v)) p.terms[m] v (by omega);(repeat' first|refine M.gw ?_|refine M.cv (hc) [0] 0 ?_|fail);exact⟨rfl,trivial,(M.W [some 0,some 1,some 2,some 3,some 4] (he:=(by(repeat'(first|exact trivial|refine And.intro ?_ ?_|refine⟨_,U,_,U,_,U,?_⟩|exact Ao.refl _|exact Ao.of_eq (by simp[Aq.Ay,zy _ _ _ hm,Wr])));done)))⟩
  .intro _;simp only[Wp];(repeat' first|refine M.gw ?_|fail);refine AW.range p.Ac.length (fun m=>True)
    (fun m=>([(3,.ptr 1 0),(4,.ptr 2 0),(5,.ptr 3 0),(6,.ptr 4 0),(50,.s .fm p.Ac),(51,.i p.Ac.length),(52,.i m)],⟨5,[(0,.var [.bool ((Xs++p.terms.map ((fun(_:Int) (t:Tm)=>t.near) v)++(p.Ac.take m).map ((fun(_:Int) (f:Fm)=>f.near) (v+Aw p.kind))).all id)]),(1,.var p.view),(2,.var [.i v,.i y]),(3,.var [.fn (.func 125) [] [.ptr 0 0],.fn (.func 127) [] [.ptr 0 0],.nilf]),(4,.var [.bool false,.bool x2,.i x3,.i x4,.i x5,.i (Aw p.kind),.i (As p.kind),.i (At p.kind)])]⟩))
    (by omega) (fun m=>rfl) (fun m=>rfl) U trivial (M.W [some 0,some 1,some 2,some 3,some 4] (he:=(by(repeat'(first|exact trivial|refine And.intro ?_ ?_|refine⟨_,U,_,U,_,U,?_⟩|exact Ao.refl _|exact Ao.of_eq (by simp[Aq.Ay,WX,WI,WR])));done))) ?_ ?_
   .intro m hm _;have hs2:=za Fm.full (Wi hm);have hc:=RU (Xs++p.terms.map ((fun _ t=>t.near) v)++(p.Ac.take m).map ((fun _ f=>f.near) (v+Aw p.kind))) p.Ac[m] (v+Aw p.kind) (by omega);(repeat' first|refine M.gw ?_|refine M.cv (hc) [0] 0 ?_|fail);exact⟨rfl,trivial,(M.W [some 0,some 1,some 2,some 3,some 4] (he:=(by(repeat'(first|exact trivial|refine And.intro ?_ ?_|refine⟨_,U,_,U,_,U,?_⟩|exact Ao.refl _|exact Ao.of_eq (by simp[Aq.Ay,zy _ _ _ hm,Wr])));done)))⟩
   .intro _;simp only[Wp];(repeat' first|refine M.gw ?_|fail);refine AW.range p.args.length (fun m=>True)
     (fun m=>([(3,.ptr 1 0),(4,.ptr 2 0),(5,.ptr 3 0),(6,.ptr 4 0),(70,.s .pf p.args),(71,.i p.args.length),(72,.i m)],⟨5,[(0,.var [.bool ((Xs++p.terms.map ((fun(_:Int) (t:Tm)=>t.near) v)++p.Ac.map ((fun(_:Int) (f:Fm)=>f.near) (v+Aw p.kind))++((Pf.AL (fun(_:Int) (t:Tm)=>t.near) (fun(_:Int) (f:Fm)=>f.near) v (As p.kind) p.args).take m).flatten).all id)]),(1,.var p.view),(2,.var [.i v,.i y]),(3,.var [.fn (.func 125) [] [.ptr 0 0],.fn (.func 127) [] [.ptr 0 0],.nilf]),(4,.var [.bool false,.bool x2,.i x3,.i x4,.i x5,.i (Aw p.kind),.i (As p.kind),.i (At p.kind)])]⟩))
     (by omega) (fun m=>rfl) (fun m=>rfl) U trivial (M.W [some 0,some 1,some 2,some 3,some 4] (he:=(by(repeat'(first|exact trivial|refine And.intro ?_ ?_|refine⟨_,U,_,U,_,U,?_⟩|exact Ao.refl _|exact Ao.of_eq (by simp[Aq.Ay,WX,Xi,WR])));done))) ?_ ?_
    .intro m hm _;have hs2:=za Pf.full (Wi hm);have hb:=hpl m (by omega);have hc:=ih p.args[m] (if m+1=p.args.length then v+As p.kind else v) (if m+1=p.args.length then y+At p.kind else y) (Xs++p.terms.map ((fun(_:Int) (t:Tm)=>t.near) v)++p.Ac.map ((fun(_:Int) (f:Fm)=>f.near) (v+Aw p.kind))++((Pf.AL (fun(_:Int) (t:Tm)=>t.near) (fun(_:Int) (f:Fm)=>f.near) v (As p.kind) p.args).take m).flatten) (by omega) (by omega) (by split<;>omega) (by split<;>omega) (hpf _ (Wi hm));have e3:(Xs++p.terms.map ((fun(_:Int) (t:Tm)=>t.near) v)++p.Ac.map ((fun(_:Int) (f:Fm)=>f.near) (v+Aw p.kind))++((Pf.AL (fun(_:Int) (t:Tm)=>t.near) (fun(_:Int) (f:Fm)=>f.near) v (As p.kind) p.args).take m).flatten)++p.args[m].Cm (fun(_:Int) (t:Tm)=>t.near) (fun(_:Int) (f:Fm)=>f.near) (if m+1=p.args.length then v+As p.kind else v)=(Xs++p.terms.map ((fun(_:Int) (t:Tm)=>t.near) v)++p.Ac.map ((fun(_:Int) (f:Fm)=>f.near) (v+Aw p.kind))++((Pf.AL (fun(_:Int) (t:Tm)=>t.near) (fun(_:Int) (f:Fm)=>f.near) v (As p.kind) p.args).take (m+1)).flatten):=by rw[Wr,K6 (fun(_:Int) (t:Tm)=>t.near) (fun(_:Int) (f:Fm)=>f.near) hm]
     rw[e3] at hc;have ev:(if(m:Int)=(x5:Int)-1 then y+At p.kind else y)=(if m+1=p.args.length then y+At p.kind else y):=by
      by_cases hx:m+1=p.args.length
      .rw[if_pos hx,if_pos (by omega)]
      .rw[if_neg hx,if_neg (by omega)]
     have ev2:(if(m:Int)=(x5:Int)-1 then v+As p.kind else v)=(if m+1=p.args.length then v+As p.kind else v):=by
      by_cases hx:m+1=p.args.length
      .rw[if_pos hx,if_pos (by omega)]
      .rw[if_neg hx,if_neg (by omega)]
     rw[ev,ev2] at hb;(repeat' first|refine M.gw ?_|refine M.c2 (hb) ?_|refine M.cv (hc) [0] 0 ?_|fail);exact⟨rfl,trivial,(M.W [some 0,some 1,some 2,some 3,some 4])⟩
    .intro _;rw[hre];simp only[K7];skip
     (exact M.n2 [some 0] (h6:=(by(repeat'(first|exact trivial|refine And.intro ?_ ?_|refine⟨_,U,_,U,_,U,?_⟩|exact Ao.of_eq (by simp[Aq.Ay,Wr])));done)) (h8:=(by simp[zk,V.wk,V.Ap,zc,Ty.view,Tm.view,Wr])))
 .refine M.F Tryz.func94 ?_;(repeat' first|refine M.gw ?_|refine M.c2 (hru) ?_|fail);refine AW.range p.terms.length (fun m=>True)
   (fun m=>([(3,.ptr 1 0),(4,.ptr 2 0),(5,.ptr 3 0),(6,.ptr 4 0),(33,.s .tm p.terms),(34,.i p.terms.length),(35,.i m)],⟨5,[(0,.var [.bool ((Xs++(p.terms.take m).map ((fun(_:Int) (t:Tm)=>t.near) v)).all id)]),(1,.var p.view),(2,.var [.i v,.i y]),(3,.var [.fn (.func 125) [] [.ptr 0 0],.fn (.func 127) [] [.ptr 0 0],.nilf]),(4,.var [.bool true,.bool x2,.i x3,.i x4,.i x5,.i (Aw p.kind),.i (As p.kind),.i (At p.kind)])]⟩))
   (by omega) (fun m=>rfl) (fun m=>rfl) U trivial (M.W [some 0,some 1,some 2,some 3,some 4] (he:=(by(repeat'(first|exact trivial|refine And.intro ?_ ?_|refine⟨_,U,_,U,_,U,?_⟩|exact Ao.refl _|exact Ao.of_eq (by simp[Aq.Ay,WX,WI,WR])));done))) ?_ ?_
  .intro m hm _;have hs2:=za Tm.full (Wi hm);have hc:=S7 (Xs++(p.terms.take m).map ((fun _ t=>t.near) v)) p.terms[m] v (by omega);(repeat' first|refine M.gw ?_|refine M.cv (hc) [0] 0 ?_|fail);exact⟨rfl,trivial,(M.W [some 0,some 1,some 2,some 3,some 4] (he:=(by(repeat'(first|exact trivial|refine And.intro ?_ ?_|refine⟨_,U,_,U,_,U,?_⟩|exact Ao.refl _|exact Ao.of_eq (by simp[Aq.Ay,zy _ _ _ hm,Wr])));done)))⟩
  .intro _;simp only[Wp];(repeat' first|refine M.gw ?_|fail);refine AW.range p.Ac.length (fun m=>True)
    (fun m=>([(3,.ptr 1 0),(4,.ptr 2 0),(5,.ptr 3 0),(6,.ptr 4 0),(50,.s .fm p.Ac),(51,.i p.Ac.length),(52,.i m)],⟨5,[(0,.var [.bool ((Xs++p.terms.map ((fun(_:Int) (t:Tm)=>t.near) v)++(p.Ac.take m).map ((fun(_:Int) (f:Fm)=>f.near) (v+Aw p.kind))).all id)]),(1,.var p.view),(2,.var [.i v,.i y]),(3,.var [.fn (.func 125) [] [.ptr 0 0],.fn (.func 127) [] [.ptr 0 0],.nilf]),(4,.var [.bool true,.bool x2,.i x3,.i x4,.i x5,.i (Aw p.kind),.i (As p.kind),.i (At p.kind)])]⟩))
    (by omega) (fun m=>rfl) (fun m=>rfl) U trivial (M.W [some 0,some 1,some 2,some 3,some 4] (he:=(by(repeat'(first|exact trivial|refine And.intro ?_ ?_|refine⟨_,U,_,U,_,U,?_⟩|exact Ao.refl _|exact Ao.of_eq (by simp[Aq.Ay,WX,WI,WR])));done))) ?_ ?_
   .intro m hm _;have hs2:=za Fm.full (Wi hm);have hc:=RU (Xs++p.terms.map ((fun _ t=>t.near) v)++(p.Ac.take m).map ((fun _ f=>f.near) (v+Aw p.kind))) p.Ac[m] (v+Aw p.kind) (by omega);(repeat' first|refine M.gw ?_|refine M.cv (hc) [0] 0 ?_|fail);exact⟨rfl,trivial,(M.W [some 0,some 1,some 2,some 3,some 4] (he:=(by(repeat'(first|exact trivial|refine And.intro ?_ ?_|refine⟨_,U,_,U,_,U,?_⟩|exact Ao.refl _|exact Ao.of_eq (by simp[Aq.Ay,zy _ _ _ hm,Wr])));done)))⟩
   .intro _;simp only[Wp];(repeat' first|refine M.gw ?_|fail);refine AW.range p.args.length (fun m=>True)
     (fun m=>([(3,.ptr 1 0),(4,.ptr 2 0),(5,.ptr 3 0),(6,.ptr 4 0),(70,.s .pf p.args),(71,.i p.args.length),(72,.i m)],⟨5,[(0,.var [.bool ((Xs++p.terms.map ((fun(_:Int) (t:Tm)=>t.near) v)++p.Ac.map ((fun(_:Int) (f:Fm)=>f.near) (v+Aw p.kind))++((Pf.AL (fun(_:Int) (t:Tm)=>t.near) (fun(_:Int) (f:Fm)=>f.near) v (As p.kind) p.args).take m).flatten).all id)]),(1,.var p.view),(2,.var [.i v,.i y]),(3,.var [.fn (.func 125) [] [.ptr 0 0],.fn (.func 127) [] [.ptr 0 0],.nilf]),(4,.var [.bool true,.bool x2,.i x3,.i x4,.i x5,.i (Aw p.kind),.i (As p.kind),.i (At p.kind)])]⟩))
     (by omega) (fun m=>rfl) (fun m=>rfl) U trivial (M.W [some 0,some 1,some 2,some 3,some 4] (he:=(by(repeat'(first|exact trivial|refine And.intro ?_ ?_|refine⟨_,U,_,U,_,U,?_⟩|exact Ao.refl _|exact Ao.of_eq (by simp[Aq.Ay,WX,Xi,WR])));done))) ?_ ?_
    .intro m hm _;have hs2:=za Pf.full (Wi hm);have hb:=hpl m (by omega);have hc:=ih p.args[m] (if m+1=p.args.length then v+As p.kind else v) (if m+1=p.args.length then y+At p.kind else y) (Xs++p.terms.map ((fun(_:Int) (t:Tm)=>t.near) v)++p.Ac.map ((fun(_:Int) (f:Fm)=>f.near) (v+Aw p.kind))++((Pf.AL (fun(_:Int) (t:Tm)=>t.near) (fun(_:Int) (f:Fm)=>f.near) v (As p.kind) p.args).take m).flatten) (by omega) (by omega) (by split<;>omega) (by split<;>omega) (hpf _ (Wi hm));have e3:(Xs++p.terms.map ((fun(_:Int) (t:Tm)=>t.near) v)++p.Ac.map ((fun(_:Int) (f:Fm)=>f.near) (v+Aw p.kind))++((Pf.AL (fun(_:Int) (t:Tm)=>t.near) (fun(_:Int) (f:Fm)=>f.near) v (As p.kind) p.args).take m).flatten)++p.args[m].Cm (fun(_:Int) (t:Tm)=>t.near) (fun(_:Int) (f:Fm)=>f.near) (if m+1=p.args.length then v+As p.kind else v)=(Xs++p.terms.map ((fun(_:Int) (t:Tm)=>t.near) v)++p.Ac.map ((fun(_:Int) (f:Fm)=>f.near) (v+Aw p.kind))++((Pf.AL (fun(_:Int) (t:Tm)=>t.near) (fun(_:Int) (f:Fm)=>f.near) v (As p.kind) p.args).take (m+1)).flatten):=by rw[Wr,K6 (fun(_:Int) (t:Tm)=>t.near) (fun(_:Int) (f:Fm)=>f.near) hm]
     rw[e3] at hc;have ev:(if(m:Int)=(x5:Int)-1 then y+At p.kind else y)=(if m+1=p.args.length then y+At p.kind else y):=by
      by_cases hx:m+1=p.args.length
      .rw[if_pos hx,if_pos (by omega)]
      .rw[if_neg hx,if_neg (by omega)]
     have ev2:(if(m:Int)=(x5:Int)-1 then v+As p.kind else v)=(if m+1=p.args.length then v+As p.kind else v):=by
      by_cases hx:m+1=p.args.length
      .rw[if_pos hx,if_pos (by omega)]
      .rw[if_neg hx,if_neg (by omega)]
     rw[ev,ev2] at hb;(repeat' first|refine M.gw ?_|refine M.c2 (hb) ?_|refine M.cv (hc) [0] 0 ?_|fail);exact⟨rfl,trivial,(M.W [some 0,some 1,some 2,some 3,some 4])⟩
    .intro _;rw[hre];simp only[K7];skip
     (exact M.n2 [some 0] (h6:=(by(repeat'(first|exact trivial|refine And.intro ?_ ?_|refine⟨_,U,_,U,_,U,?_⟩|exact Ao.of_eq (by simp[Aq.Ay,Wr])));done)) (h8:=(by simp[zk,V.wk,V.Ap,zc,Ty.view,Tm.view,Wr])))
theorem On(p:Pf)(hp:p.full<5000000000)(hs:p.nd):PC E 92 [.agg p.view] (.bool p.AG):=by
 have hc:=Yf7 _ p 0 0 [] (Wj _) (by omega) (by omega) (by omega) hs;rw[WW] at hc;unfold Pf.AG;generalize (p.Cm (fun(_:Int) (t:Tm)=>t.near) (fun(_:Int) (f:Fm)=>f.near) 0).all id=b at*;refine M.F Tryz.func92 ?_;(repeat' first|refine M.gw ?_|refine M.cv (hc) [1] 0 ?_|fail);simp[zk,V.wk,V.Ap,zc,Ty.view,Tm.view]
end Go.Ab
