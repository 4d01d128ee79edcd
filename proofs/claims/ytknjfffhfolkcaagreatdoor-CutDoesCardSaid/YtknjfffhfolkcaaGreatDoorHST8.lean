/- A part of this seat's proofs. No conditions. -/
import Derived.Test.YtknjfffhfolkcaaGreatDoorHST5
namespace Go.Ab
open Go Go.Proofs
set_option maxRecDepth 100000
set_option maxHeartbeats 4000000
set_option linter.all false
theorem Qb(fr by_ i bl:Int):AC E 235 [.i i,.i bl,.ptr 0 0,.ptr 1 0] ⟨2,[(0,.var [.i fr]),(1,.var [.i by_])]⟩ (.agg (GW fr by_ i bl).view) ⟨2,[(0,.var [.i fr]),(1,.var [.i by_])]⟩:=by
 have hv:=PJ;refine M.F Tryz.func235 ?_;(repeat' first|refine M.gw ?_|refine M.c2 (hv _) ?_|refine M.cs ?_ ?_<;>intro h|fail)
 .have h':fr<=IntKind.i64.wrap (i-bl):=by simpa using h
  (exact M.n2 [some 0,some 1] (h8:=(by simp[zk,V.wk,V.Ap,zc,Ty.view,Tm.view,GW,h'])))
 .have h':¬fr<=IntKind.i64.wrap (i-bl):=by simpa using h
  (exact M.n2 [some 0,some 1] (h8:=(by simp[zk,V.wk,V.Ap,zc,Ty.view,Tm.view,GW,h'])))
theorem Yjx(fr by_:Int):∀(n:Nat) (t:Tm) (bl:Int),t.full<=n->n<549755813888->0<=bl->bl+n<549755813888->AC E 255 [.agg t.view,.i bl,.ptr 0 0,.ptr 1 0] ⟨4,[(0,.var [.fn (.func 235) [] [.ptr 2 0,.ptr 3 0]]),(1,.var [.fn (.func 255) [] [.ptr 0 0,.ptr 1 0]]),(2,.var [.i fr]),(3,.var [.i by_])]⟩ (.agg (t.re (GW fr by_) bl).view) ⟨4,[(0,.var [.fn (.func 235) [] [.ptr 2 0,.ptr 3 0]]),(1,.var [.fn (.func 255) [] [.ptr 0 0,.ptr 1 0]]),(2,.var [.i fr]),(3,.var [.i by_])]⟩:=by
 intro n;induction n with
 |zero=>intro t bl h;have:=t.Aa;omega
 |succ n ih=>
 intro t bl hsz hb hbl hbn;have hsz':=Tm.Af t;have hlen:=zd Tm.full Tm.Aa t.args;have hre:=Tm.Bt (GW fr by_) bl t;have hcb:=Qb fr by_ t.index bl;have hown:=uk _ t.ty (Wj _) (by omega);refine M.F Tryz.func255 ?_;(repeat' first|refine M.gw ?_|refine M.cv (hcb) [2,3] 0 ?_|refine M.c2 (hown) ?_|refine M.cs ?_ ?_<;>intro h|fail)
 .have hk:t.kind=1:=by simpa using h
  (exact M.n2 [some 0,some 1,some 2,some 3] (h8:=(by simp[zk,V.wk,V.Ap,zc,Ty.view,Tm.view,hre,hk])))
 all_goals
  rename_i hk1;have hup:up t.kind bl<=bl+1:=by simp only[up];split<;>omega
  have hup0:0<=up t.kind bl:=by simp only[up];split<;>omega
  have hk1':¬t.kind=1:=by simpa using hk1
  refine AW.range t.args.length (fun m=>True)
   (fun m=>([(1,.i (up t.kind bl)),(3,.ptr 1 0),(6,.ptr 5 0),(7,.ptr 6 0),(32,.s .tm t.args),(33,.i t.args.length),(34,.i m)],⟨8,[(0,.var [.fn (.func 235) [] [.ptr 2 0,.ptr 3 0]]),(1,.var [.fn (.func 255) [] [.ptr 0 0,.ptr 1 0]]),(2,.var [.i fr]),(3,.var [.i by_]),(4,.var t.view),(5,.var [.i 0,.i 0,.i 0,.slice .nil (.t .ty []),.slice .nil (.t .tm [])]),(6,.var [.i t.kind,.i t.index,.i t.ty.kind,.s .ty t.ty.args,.slice (.own 7) (.t .tm ((t.args.take m).map (Tm.re (GW fr by_) (up t.kind bl))))]),(7,.row)]⟩))
   (by omega) (fun m=>rfl) (fun m=>rfl) rfl trivial ?_ ?_ ?_
  .simp_all only[beq_iff_eq,beq_eq_false_iff_ne,ne_eq];exact(M.W [some 0,some 1,some 2,some 3,some 4,some 5,some 6,none] (hf:=(by(repeat'(first|exact trivial|refine And.intro ?_ ?_|refine⟨_,U,_,U,?_⟩|exact Ao.refl _|exact Ao.of_eq (by simp[Aq.Ay,up, *])));done)))
  .intro m hm hP;have hs2:=za Tm.full (Wi hm);have hc:=ih t.args[m] (up t.kind bl) (by omega) (by omega) hup0 (by omega);(repeat' first|refine M.gw ?_|refine M.cv (hc) [0,1,2,3] 0 ?_|fail);refine⟨rfl,trivial,?_⟩;exact(M.W [some 0,some 1,some 2,some 3,some 4,some 5,some 6,some 9] (he:=(by(repeat'(first|exact trivial|exact Or.inr ⟨_,U,rfl⟩|refine And.intro ?_ ?_|refine⟨_,U,_,U,_,U,?_⟩|exact Ao.refl _|exact Ao.of_eq (by simp[Aq.Ay,zy _ _ _ hm])));done)))
  .intro hP;(repeat' first|refine M.gw ?_|fail)
   (exact M.n2 [some 0,some 1,some 2,some 3] (h8:=(by simp[zk,V.wk,V.Ap,zc,Ty.view,Tm.view,hre,hk1'])))
theorem Qo(fr by_:Int)(t:Tm)(ht:t.full<274877906944):AC E 234 [.agg t.view,.fn (.func 235) [] [.ptr 0 0,.ptr 1 0]] ⟨2,[(0,.var [.i fr]),(1,.var [.i by_])]⟩ (.agg (t.lw fr by_).view) ⟨2,[(0,.var [.i fr]),(1,.var [.i by_])]⟩:=by
 have hc:=Yjx fr by_ _ t 0 (Wj _) (by omega) (by omega) (by omega);unfold Tm.lw;refine M.F Tryz.func234 ?_;(repeat' first|refine M.gw ?_|refine M.cv (hc) [3,5,0,1] 0 ?_|fail)
 (exact M.n2 [some 0,some 1] (h8:=(by simp[zk,V.wk,V.Ap,zc,Ty.view,Tm.view,hc])))
theorem LF(t:Tm)(fr by_:Int)(ht:t.full<274877906944):PC E 209 [.agg t.view,.i fr,.i by_] (.agg (t.lw fr by_).view):=by
 have hc:=Qo fr by_ t ht;refine M.F Tryz.func209 ?_;(repeat' first|refine M.gw ?_|refine M.cb (hc) [1,2] 0 ?_|fail);simp[zk,V.wk,V.Ap,zc,Ty.view,Tm.view]
theorem Yht(fr by_:Int)(hat:0<=fr/\fr<274877906944)(t:Tm)(bl:Int)(ht:t.full<274877906944)(hb:0<=bl/\bl<274877906944):
 AC E 260 [.agg t.view,.i bl,.ptr 0 0,.ptr 1 0] ⟨2,[(0,.var [.i fr]),(1,.var [.i by_])]⟩ (.agg (t.lw (fr+bl) by_).view) ⟨2,[(0,.var [.i fr]),(1,.var [.i by_])]⟩:=by
 have hc:=LF t (fr+bl) by_ ht;refine M.F Tryz.func260 ?_;(repeat' first|refine M.gw ?_|refine M.c2 (hc) ?_|fail)
 (exact M.n2 [some 0,some 1] (h8:=(by simp[zk,V.wk,V.Ap,zc,Ty.view,Tm.view,hc])))
theorem Yiq(fr by_:Int)(hat:0<=fr/\fr<274877906944):∀(n:Nat) (f:Fm) (bl:Int),f.full<=n->n<274877906944->0<=bl->bl+n<274877906944->
 AC E 175 [.agg f.view,.i bl,.fn (.func 260) [] [.ptr 0 0,.ptr 1 0]] ⟨2,[(0,.var [.i fr]),(1,.var [.i by_])]⟩ (.agg (f.re (fun b t=>t.lw (fr+b) by_) bl).view) ⟨2,[(0,.var [.i fr]),(1,.var [.i by_])]⟩:=by
 intro n;induction n with
 |zero=>intro f bl h;intros;have:=f.Aa;omega
 |succ n ih=>
 intro f bl hsz hb hbl hbn;have hsz':=f.Af;have hlen:=zd Fm.full Fm.Aa f.args;have hlen2:=zd Tm.full Tm.Aa f.terms;have hty:=uk _ f.ty (Wj _) (by omega);have hq:=ue f.kind;have hre:=Fm.Bt (fun b t=>t.lw (fr+b) by_) bl f;refine M.F Tryz.func175 ?_;(repeat' first|refine M.gw ?_|refine M.c2 (hty) ?_|fail);refine AW.range f.terms.length (fun m=>True)
  (fun m=>([(1,.i bl),(2,.fn (.func 260) [] [.ptr 0 0,.ptr 1 0]),(3,.ptr 2 0),(6,.ptr 3 0),(7,.ptr 4 0),(19,.s .tm f.terms),(20,.i f.terms.length),(21,.i m)],⟨6,[(0,.var [.i fr]),(1,.var [.i by_]),(2,.var f.view),(3,.var [.i 0,.i 0,.slice .nil (.t .ty []),.slice .nil (.t .tm []),.slice .nil (.t .fm [])]),(4,.var [.i f.kind,.i f.ty.kind,.s .ty f.ty.args,.slice (.own 5) (.t .tm ((f.terms.take m).map ((fun b t=>t.lw (fr+b) by_) bl))),.slice .nil (.t .fm [])]),(5,.row)]⟩))
  (by omega) (fun m=>rfl) (fun m=>rfl) rfl trivial (M.W [some 0,some 1,some 2,some 3,some 4,none]) ?_ ?_
 .intro m hm _;have hs2:=za Tm.full (Wi hm);have hc:=Yht fr by_ hat f.terms[m] bl (by omega) (by omega);(repeat' first|refine M.gw ?_|refine M.cv (hc) [0,1] 0 ?_|fail);exact⟨rfl,trivial,(M.W [some 0,some 1,some 2,some 3,some 4,some 7] (he:=(by(repeat'(first|exact trivial|exact Or.inr ⟨_,U,rfl⟩|refine And.intro ?_ ?_|refine⟨_,U,_,U,_,U,?_⟩|exact Ao.refl _|exact Ao.of_eq (by simp[Aq.Ay,zy _ _ _ hm])));done)))⟩
 .intro _;simp only[Wp];cases hqk:xg f.kind with
  |true=>
   rw[hqk] at hq;have hu:A3 f.kind bl=bl+1:=by simp[A3,hqk]
   rw[hu] at hre;(repeat' first|refine M.gw ?_|refine M.c2 (hq) ?_|fail);refine AW.range f.args.length (fun m=>True)
    (fun m=>([(1,.i (bl+1)),(2,.fn (.func 260) [] [.ptr 0 0,.ptr 1 0]),(3,.ptr 2 0),(6,.ptr 3 0),(7,.ptr 4 0),(41,.s .fm f.args),(42,.i f.args.length),(43,.i m)],⟨7,[(0,.var [.i fr]),(1,.var [.i by_]),(2,.var f.view),(3,.var [.i 0,.i 0,.slice .nil (.t .ty []),.slice .nil (.t .tm []),.slice .nil (.t .fm [])]),(4,.var [.i f.kind,.i f.ty.kind,.s .ty f.ty.args,.slice (.own 5) (.t .tm (f.terms.map ((fun b t=>t.lw (fr+b) by_) bl))),.slice (.own 6) (.t .fm ((f.args.take m).map (Fm.re (fun b t=>t.lw (fr+b) by_) (bl+1))))]),(5,.row),(6,.row)]⟩))
    (by omega) (fun m=>rfl) (fun m=>rfl) rfl trivial (M.W [some 0,some 1,some 2,some 3,some 4,some 5,none]) ?_ ?_
   .intro m hm _;have hs2:=za Fm.full (Wi hm);have hc:=ih f.args[m] (bl+1) (by omega) (by omega) (by omega) (by omega);(repeat' first|refine M.gw ?_|refine M.cv (hc) [0,1] 0 ?_|fail);exact⟨rfl,trivial,(M.W [some 0,some 1,some 2,some 3,some 4,some 5,some 8] (he:=(by(repeat'(first|exact trivial|exact Or.inr ⟨_,U,rfl⟩|refine And.intro ?_ ?_|refine⟨_,U,_,U,_,U,?_⟩|exact Ao.refl _|exact Ao.of_eq (by simp[Aq.Ay,zy _ _ _ hm])));done)))⟩
   .intro _;simp only[Wp];(repeat' first|refine M.gw ?_|fail)
    (exact M.n2 [some 0,some 1] (h8:=(by simp[zk,V.wk,V.Ap,zc,Ty.view,Tm.view,hre])))
  |false=>
   rw[hqk] at hq;have hu:A3 f.kind bl=bl:=by simp[A3,hqk]
   rw[hu] at hre;(repeat' first|refine M.gw ?_|refine M.c2 (hq) ?_|fail);refine AW.range f.args.length (fun m=>True)
    (fun m=>([(1,.i bl),(2,.fn (.func 260) [] [.ptr 0 0,.ptr 1 0]),(3,.ptr 2 0),(6,.ptr 3 0),(7,.ptr 4 0),(41,.s .fm f.args),(42,.i f.args.length),(43,.i m)],⟨7,[(0,.var [.i fr]),(1,.var [.i by_]),(2,.var f.view),(3,.var [.i 0,.i 0,.slice .nil (.t .ty []),.slice .nil (.t .tm []),.slice .nil (.t .fm [])]),(4,.var [.i f.kind,.i f.ty.kind,.s .ty f.ty.args,.slice (.own 5) (.t .tm (f.terms.map ((fun b t=>t.lw (fr+b) by_) bl))),.slice (.own 6) (.t .fm ((f.args.take m).map (Fm.re (fun b t=>t.lw (fr+b) by_) bl)))]),(5,.row),(6,.row)]⟩))
    (by omega) (fun m=>rfl) (fun m=>rfl) rfl trivial (M.W [some 0,some 1,some 2,some 3,some 4,some 5,none]) ?_ ?_
   .intro m hm _;have hs2:=za Fm.full (Wi hm);have hc:=ih f.args[m] bl (by omega) (by omega) (by omega) (by omega);(repeat' first|refine M.gw ?_|refine M.cv (hc) [0,1] 0 ?_|fail);exact⟨rfl,trivial,(M.W [some 0,some 1,some 2,some 3,some 4,some 5,some 8] (he:=(by(repeat'(first|exact trivial|exact Or.inr ⟨_,U,rfl⟩|refine And.intro ?_ ?_|refine⟨_,U,_,U,_,U,?_⟩|exact Ao.refl _|exact Ao.of_eq (by simp[Aq.Ay,zy _ _ _ hm])));done)))⟩
   .intro _;simp only[Wp];(repeat' first|refine M.gw ?_|fail)
    (exact M.n2 [some 0,some 1] (h8:=(by simp[zk,V.wk,V.Ap,zc,Ty.view,Tm.view,hre])))
theorem Yhy(f:Fm)(fr by_:Int)(hat:0<=fr/\fr<274877906944)(hf:f.full<137438953472):PC E 252 [.agg f.view,.i fr,.i by_] (.agg (f.lw fr by_).view):=by
 have hc:=Yiq fr by_ hat _ f 0 (Wj _) (by omega) (by omega) (by omega);refine M.F Tryz.func252 ?_;(repeat' first|refine M.gw ?_|refine M.cv (hc) [1,2] 0 ?_|fail)
 rfl
theorem Yjv(fr by_:Int)(hat:0<=fr/\fr<274877906944)(t:Tm)(bl:Int)(ht:t.full<274877906944)(hb:0<=bl/\bl<274877906944):
 AC E 250 [.agg t.view,.i bl,.ptr 0 0,.ptr 1 0] ⟨2,[(0,.var [.i fr]),(1,.var [.i by_])]⟩ (.agg (t.lw (fr+bl) by_).view) ⟨2,[(0,.var [.i fr]),(1,.var [.i by_])]⟩:=by
 have hc:=LF t (fr+bl) by_ ht;refine M.F Tryz.func250 ?_;(repeat' first|refine M.gw ?_|refine M.c2 (hc) ?_|fail)
 (exact M.n2 [some 0,some 1] (h8:=(by simp[zk,V.wk,V.Ap,zc,Ty.view,Tm.view,hc])))
theorem Yi1(fr by_:Int)(hat:0<=fr/\fr<100000000000)(f:Fm)(bl:Int)(ht:f.full<137438953472)(hb:0<=bl/\bl<100000000000):
 AC E 251 [.agg f.view,.i bl,.ptr 0 0,.ptr 1 0] ⟨2,[(0,.var [.i fr]),(1,.var [.i by_])]⟩ (.agg (f.lw (fr+bl) by_).view) ⟨2,[(0,.var [.i fr]),(1,.var [.i by_])]⟩:=by
 have hc:=Yhy f (fr+bl) by_ (by omega) ht;generalize f.lw (fr+bl) by_=F at*;refine M.F Tryz.func251 ?_;(repeat' first|refine M.gw ?_|refine M.c2 (hc) ?_|fail)
 (exact M.n2 [some 0,some 1] (h8:=(by simp[zk,V.wk,V.Ap,zc,Ty.view,Tm.view,Fm.view])))
theorem Yg8(fr by_:Int)(hfr:0<=fr/\fr<10000000000):∀(n:Nat) (p:Pf) (v y:Int),p.full<=n->n<10000000000->(0<=v/\v+2*n<=50000000000)->(0<=y/\y+2*n<=50000000000)->p.nd->
 AC E 97 [.agg p.view,.agg [.i v,.i y],.agg [.fn (.func 250) [] [.ptr 0 0,.ptr 1 0],.fn (.func 251) [] [.ptr 0 0,.ptr 1 0],.nilf]] ⟨2,[(0,.var [.i fr]),(1,.var [.i by_])]⟩ (.agg (p.uw fr by_ v).view) ⟨2,[(0,.var [.i fr]),(1,.var [.i by_])]⟩:=by
 intro n;induction n with
 |zero=>intro p v y hz;have:=p.Aa;omega
 |succ n ih=>
 intro p v y hz hn hv hh hs;have hre:=p.Fx fr by_ v;have hsz':=p.Af;have hlen:=zd Pf.full Pf.Aa p.args;have hlen1:=zd Fm.full Fm.Aa p.Ac;have hlen2:=zd Tm.full Tm.Aa p.terms;have hty:=uk _ p.ty (Wj _) (by omega);have hru:=vd p.kind;obtain⟨⟨nd,n1,n4⟩,hpf⟩:=(Pf.BK p).1 hs;have hal:p.args.length<=2:=by
  rw[n4];unfold BD at n1
  repeat(split at n1;· cases n1;decide)
  cases n1
 have hpl:=fun(m:Nat) (hm:m<=1000000)=>y3 p.kind v y nd n1 m hm (by omega) (by omega);have e2:C0 p.kind=[.bool nd.index,.bool nd.typ,.i nd.terms,.i nd.Ac,.i nd.args,.i (Aw p.kind),.i (As p.kind),.i (At p.kind)]:=by unfold C0;rw[n1]
 have b1:0<=As p.kind/\As p.kind<=2:=by unfold As;split<;>(try split)<;>omega
 have b2:0<=At p.kind/\At p.kind<=1:=by unfold At;split<;>omega
 have b3:0<=Aw p.kind/\Aw p.kind<=1:=by unfold Aw;split<;>omega
 rw[n1] at hru;simp only[Xf] at hru;rw[e2] at hru;simp only[e2] at hpl;refine M.F Tryz.func97 ?_;(repeat' first|refine M.gw ?_|refine M.c2 (hru) ?_|refine M.c2 (hty) ?_|refine M.gs ?_ ?_<;>intro h|fail);all_goals
  refine AW.range p.terms.length (fun m=>True)
   (fun m=>([(3,.ptr 2 0),(4,.ptr 3 0),(5,.ptr 4 0),(6,.ptr 5 0),(7,.ptr 6 0),(9,.ptr 7 0),(44,.s .tm p.terms),(45,.i p.terms.length),(46,.i m)],⟨9,[(0,.var [.i fr]),(1,.var [.i by_]),(2,.var p.view),(3,.var [.i v,.i y]),(4,.var [.fn (.func 250) [] [.ptr 0 0,.ptr 1 0],.fn (.func 251) [] [.ptr 0 0,.ptr 1 0],.nilf]),(5,.var [.i 0,.i 0,.i 0,.slice .nil (.t .ty []),.slice .nil (.t .tm []),.slice .nil (.t .fm []),.slice .nil (.t .pf [])]),(6,.var [.bool nd.index,.bool nd.typ,.i nd.terms,.i nd.Ac,.i nd.args,.i (Aw p.kind),.i (As p.kind),.i (At p.kind)]),(7,.var [.i p.kind,.i p.index,.i p.ty.kind,.s .ty p.ty.args,.slice (.own 8) (.t .tm ((p.terms.take m).map fun t=>t.lw (fr+v) by_)),.slice .nil (.t .fm []),.slice .nil (.t .pf [])]),(8,.row)]⟩))
   (by omega) (fun m=>rfl) (fun m=>rfl) rfl trivial (M.W [some 0,some 1,some 2,some 3,some 4,some 5,some 6,some 7,none]) ?_ ?_
  .intro m hm _;have hs2:=za Tm.full (Wi hm);have hc:=Yjv fr by_ (by omega) p.terms[m] v (by omega) (by omega);(repeat' first|refine M.gw ?_|refine M.cv (hc) [0,1] 0 ?_|fail);exact⟨rfl,trivial,(M.W [some 0,some 1,some 2,some 3,some 4,some 5,some 6,some 7,some 10] (he:=(by(repeat'(first|exact trivial|exact Or.inr ⟨_,U,rfl⟩|refine And.intro ?_ ?_|refine⟨_,U,_,U,_,U,?_⟩|exact Ao.refl _|exact Ao.of_eq (by simp[Aq.Ay,zy _ _ _ hm])));done)))⟩
  .intro _;simp only[Wp];(repeat' first|refine M.gw ?_|fail);refine AW.range p.Ac.length (fun m=>True)
    (fun m=>([(3,.ptr 2 0),(4,.ptr 3 0),(5,.ptr 4 0),(6,.ptr 5 0),(7,.ptr 6 0),(9,.ptr 7 0),(73,.s .fm p.Ac),(74,.i p.Ac.length),(75,.i m)],⟨10,[(0,.var [.i fr]),(1,.var [.i by_]),(2,.var p.view),(3,.var [.i v,.i y]),(4,.var [.fn (.func 250) [] [.ptr 0 0,.ptr 1 0],.fn (.func 251) [] [.ptr 0 0,.ptr 1 0],.nilf]),(5,.var [.i 0,.i 0,.i 0,.slice .nil (.t .ty []),.slice .nil (.t .tm []),.slice .nil (.t .fm []),.slice .nil (.t .pf [])]),(6,.var [.bool nd.index,.bool nd.typ,.i nd.terms,.i nd.Ac,.i nd.args,.i (Aw p.kind),.i (As p.kind),.i (At p.kind)]),(7,.var [.i p.kind,.i p.index,.i p.ty.kind,.s .ty p.ty.args,.slice (.own 8) (.t .tm (p.terms.map fun t=>t.lw (fr+v) by_)),.slice (.own 9) (.t .fm ((p.Ac.take m).map fun f=>f.lw (fr+(v+Aw p.kind)) by_)),.slice .nil (.t .pf [])]),(8,.row),(9,.row)]⟩))
    (by omega) (fun m=>rfl) (fun m=>rfl) rfl trivial (M.W [some 0,some 1,some 2,some 3,some 4,some 5,some 6,some 7,some 8,none]) ?_ ?_
   .intro m hm _;have hs2:=za Fm.full (Wi hm);have hc:=Yi1 fr by_ (by omega) p.Ac[m] (v+Aw p.kind) (by omega) (by omega);(repeat' first|refine M.gw ?_|refine M.cv (hc) [0,1] 0 ?_|fail);exact⟨rfl,trivial,(M.W [some 0,some 1,some 2,some 3,some 4,some 5,some 6,some 7,some 8,some 11] (he:=(by(repeat'(first|exact trivial|exact Or.inr ⟨_,U,rfl⟩|refine And.intro ?_ ?_|refine⟨_,U,_,U,_,U,?_⟩|exact Ao.refl _|exact Ao.of_eq (by simp[Aq.Ay,zy _ _ _ hm])));done)))⟩
   .intro _;simp only[Wp];(repeat' first|refine M.gw ?_|fail);refine AW.range p.args.length (fun m=>True)
     (fun m=>([(3,.ptr 2 0),(4,.ptr 3 0),(5,.ptr 4 0),(6,.ptr 5 0),(7,.ptr 6 0),(9,.ptr 7 0),(105,.s .pf p.args),(106,.i p.args.length),(107,.i m)],⟨11,[(0,.var [.i fr]),(1,.var [.i by_]),(2,.var p.view),(3,.var [.i v,.i y]),(4,.var [.fn (.func 250) [] [.ptr 0 0,.ptr 1 0],.fn (.func 251) [] [.ptr 0 0,.ptr 1 0],.nilf]),(5,.var [.i 0,.i 0,.i 0,.slice .nil (.t .ty []),.slice .nil (.t .tm []),.slice .nil (.t .fm []),.slice .nil (.t .pf [])]),(6,.var [.bool nd.index,.bool nd.typ,.i nd.terms,.i nd.Ac,.i nd.args,.i (Aw p.kind),.i (As p.kind),.i (At p.kind)]),(7,.var [.i p.kind,.i p.index,.i p.ty.kind,.s .ty p.ty.args,.slice (.own 8) (.t .tm (p.terms.map fun t=>t.lw (fr+v) by_)),.slice (.own 9) (.t .fm (p.Ac.map fun f=>f.lw (fr+(v+Aw p.kind)) by_)),.slice (.own 10) (.t .pf ((Pf.DB fr by_ v (As p.kind) p.args).take m))]),(8,.row),(9,.row),(10,.row)]⟩))
     (by omega) (fun m=>rfl) (fun m=>rfl) rfl trivial (M.W [some 0,some 1,some 2,some 3,some 4,some 5,some 6,some 7,some 8,some 9,none]) ?_ ?_
    .intro m hm _;have hs2:=za Pf.full (Wi hm);have hb:=hpl m (by omega);have hc:=ih p.args[m] (if m+1=p.args.length then v+As p.kind else v) (if(m:Int)=(nd.args:Int)-1 then y+At p.kind else y) (by omega) (by omega) (by split<;>omega) (by split<;>omega) (hpf _ (Wi hm));have ev:(if(m:Int)=(nd.args:Int)-1 then v+As p.kind else v)=(if m+1=p.args.length then v+As p.kind else v):=by
      by_cases hx:m+1=p.args.length
      .rw[if_pos hx,if_pos (by omega)]
      .rw[if_neg hx,if_neg (by omega)]
     rw[ev] at hb;(repeat' first|refine M.gw ?_|refine M.c2 (hb) ?_|refine M.cv (hc) [0,1] 0 ?_|fail);exact⟨rfl,trivial,(M.W [some 0,some 1,some 2,some 3,some 4,some 5,some 6,some 7,some 8,some 9,some 12] (he:=(by(repeat'(first|exact trivial|exact Or.inr ⟨_,U,rfl⟩|refine And.intro ?_ ?_|refine⟨_,U,_,U,_,U,?_⟩|exact Ao.refl _|exact Ao.of_eq (by simp[Aq.Ay,Zyy hm])));done)))⟩
    .intro _;simp only[Yed];(repeat' first|refine M.gw ?_|fail);rw[hre]
     (exact M.n2 [some 0,some 1] (h8:=(by simp[zk,V.wk,V.Ap,zc,Ty.view,Tm.view,hre])))
theorem Ygy(p:Pf)(fr by_:Int)(hfr:0<=fr/\fr<10000000000)(hp:p.full<5000000000)(hs:p.nd):PC E 226 [.agg p.view,.i fr,.i by_] (.agg (p.uw fr by_ 0).view):=by
 have hc:=Yg8 fr by_ hfr _ p 0 0 (Wj _) (by omega) (by omega) (by omega) hs;refine M.F Tryz.func226 ?_;(repeat' first|refine M.gw ?_|refine M.cv (hc) [1,2] 0 ?_|fail);simp[zk,V.wk,V.Ap,zc,Ty.view,Tm.view]
theorem Oy(fr by_:Int)(i v y:Int)(p:Pf):
 AC E 249 [.agg p.view,.agg [.i v,.i y],.ptr 0 0,.ptr 1 0] ⟨2,[(0,.var [.i fr]),(1,.var [.i by_])]⟩ (.agg (va (if IntKind.i64.wrap (p.index-y)>=fr then IntKind.i64.wrap (p.index+by_) else p.index)).view) ⟨2,[(0,.var [.i fr]),(1,.var [.i by_])]⟩:=by
 have h1:=NQ (IntKind.i64.wrap (p.index+by_));have h2:=NQ p.index;by_cases h0:IntKind.i64.wrap (p.index-y)>=fr
 .rw[if_pos h0];refine M.F Tryz.func249 ?_;(repeat' first|refine M.gw ?_|refine M.c2 (h1) ?_|refine M.c2 (h2) ?_|refine M.cs ?_ ?_<;>intro h|fail)
  ·(exact M.n2 [some 0,some 1] (h8:=(by simp[zk,V.wk,V.Ap,zc,Ty.view,Tm.view,Pf.view,va])))
  .exfalso;simp at h;omega
 .rw[if_neg h0];refine M.F Tryz.func249 ?_;(repeat' first|refine M.gw ?_|refine M.c2 (h1) ?_|refine M.c2 (h2) ?_|refine M.cs ?_ ?_<;>intro h|fail)
  .exfalso;simp at h;omega
  ·(exact M.n2 [some 0,some 1] (h8:=(by simp[zk,V.wk,V.Ap,zc,Ty.view,Tm.view,Pf.view,va])))
theorem Yho(fr by_:Int):∀(n:Nat) (p:Pf) (v y:Int),p.full<=n->n<10000000000->(0<=v/\v+2*n<=50000000000)->(0<=y/\y+2*n<=50000000000)->p.nd->
 AC E 97 [.agg p.view,.agg [.i v,.i y],.agg [.nilf,.nilf,.fn (.func 249) [] [.ptr 0 0,.ptr 1 0]]] ⟨2,[(0,.var [.i fr]),(1,.var [.i by_])]⟩ (.agg (p.hw fr by_ y).view) ⟨2,[(0,.var [.i fr]),(1,.var [.i by_])]⟩:=by
 intro n;induction n with
 |zero=>intro p v y hz;have:=p.Aa;omega
 |succ n ih=>
 intro p v y hz hn hv hh hs;have hre:=p.Gm fr by_ y;by_cases hk:p.kind=1
 .rw[if_pos hk] at hre;rw[hre];have hc:=Oy fr by_ 0 v y p;refine M.F Tryz.func97 ?_;(repeat' first|refine M.go ?_|refine M.cv (hc) [0,1] 0 ?_|refine M.gs ?_ ?_<;>intro h|refine M.z1 3 ?_|refine M.gk ?_|fail);all_goals first|exfalso;simp at h;omega|exfalso;simp_all;done|exact M.n2 [some 0,some 1] (h8:=(by simp[zk,V.wk,V.Ap,zc,Ty.view,Tm.view,Pf.view,va]))
 rw[if_neg hk] at hre;have hsz':=p.Af;have hlen:=zd Pf.full Pf.Aa p.args;have hlen1:=zd Fm.full Fm.Aa p.Ac;have hlen2:=zd Tm.full Tm.Aa p.terms;have hty:=uk _ p.ty (Wj _) (by omega);have hru:=vd p.kind;obtain⟨⟨nd,n1,n4⟩,hpf⟩:=(Pf.BK p).1 hs;have hal:p.args.length<=2:=by
  rw[n4];unfold BD at n1
  repeat(split at n1;· cases n1;decide)
  cases n1
 have hpl:=fun(m:Nat) (hm:m<=1000000)=>y3 p.kind v y nd n1 m hm (by omega) (by omega);have e2:C0 p.kind=[.bool nd.index,.bool nd.typ,.i nd.terms,.i nd.Ac,.i nd.args,.i (Aw p.kind),.i (As p.kind),.i (At p.kind)]:=by unfold C0;rw[n1]
 have b1:0<=As p.kind/\As p.kind<=2:=by unfold As;split<;>(try split)<;>omega
 have b2:0<=At p.kind/\At p.kind<=1:=by unfold At;split<;>omega
 have b3:0<=Aw p.kind/\Aw p.kind<=1:=by unfold Aw;split<;>omega
 rw[n1] at hru;simp only[Xf] at hru;rw[e2] at hru;simp only[e2] at hpl;refine M.F Tryz.func97 ?_;(repeat' first|refine M.go ?_|refine M.c2 (hru) ?_|refine M.c2 (hty) ?_|refine M.gs ?_ ?_<;>intro h|refine M.z1 5 ?_|refine M.gk ?_|fail);all_goals first
  |(exfalso;simp at h;omega)
  |skip
 (repeat' first|refine M.gw ?_|fail);all_goals
  refine AW.range p.terms.length (fun m=>True)
   (fun m=>([(3,.ptr 2 0),(4,.ptr 3 0),(5,.ptr 4 0),(6,.ptr 5 0),(7,.ptr 6 0),(9,.ptr 7 0),(44,.s .tm p.terms),(45,.i p.terms.length),(46,.i m)],⟨9,[(0,.var [.i fr]),(1,.var [.i by_]),(2,.var p.view),(3,.var [.i v,.i y]),(4,.var [.nilf,.nilf,.fn (.func 249) [] [.ptr 0 0,.ptr 1 0]]),(5,.var [.i 0,.i 0,.i 0,.slice .nil (.t .ty []),.slice .nil (.t .tm []),.slice .nil (.t .fm []),.slice .nil (.t .pf [])]),(6,.var [.bool nd.index,.bool nd.typ,.i nd.terms,.i nd.Ac,.i nd.args,.i (Aw p.kind),.i (As p.kind),.i (At p.kind)]),(7,.var [.i p.kind,.i p.index,.i p.ty.kind,.s .ty p.ty.args,.slice (.own 8) (.t .tm (p.terms.take m)),.slice .nil (.t .fm []),.slice .nil (.t .pf [])]),(8,.row)]⟩))
   (by omega) (fun m=>rfl) (fun m=>rfl) rfl trivial (M.W [some 0,some 1,some 2,some 3,some 4,some 5,some 6,some 7,none]) ?_ ?_
  .intro m hm _;have hs2:=za Tm.full (Wi hm);have hc:=Mo _ p.terms[m] (Wj _) (by omega);(repeat' first|refine M.gw ?_|refine M.c2 (hc) ?_|fail);exact⟨rfl,trivial,(M.W [some 0,some 1,some 2,some 3,some 4,some 5,some 6,some 7,some 10] (he:=(by(repeat'(first|exact trivial|exact Or.inr ⟨_,U,rfl⟩|refine And.intro ?_ ?_|refine⟨_,U,_,U,_,U,?_⟩|exact Ao.refl _|exact Ao.of_eq (by simp[Aq.Ay,Wv])));done)))⟩
  .intro _;simp only[Wp];(repeat' first|refine M.gw ?_|fail);refine AW.range p.Ac.length (fun m=>True)
    (fun m=>([(3,.ptr 2 0),(4,.ptr 3 0),(5,.ptr 4 0),(6,.ptr 5 0),(7,.ptr 6 0),(9,.ptr 7 0),(73,.s .fm p.Ac),(74,.i p.Ac.length),(75,.i m)],⟨10,[(0,.var [.i fr]),(1,.var [.i by_]),(2,.var p.view),(3,.var [.i v,.i y]),(4,.var [.nilf,.nilf,.fn (.func 249) [] [.ptr 0 0,.ptr 1 0]]),(5,.var [.i 0,.i 0,.i 0,.slice .nil (.t .ty []),.slice .nil (.t .tm []),.slice .nil (.t .fm []),.slice .nil (.t .pf [])]),(6,.var [.bool nd.index,.bool nd.typ,.i nd.terms,.i nd.Ac,.i nd.args,.i (Aw p.kind),.i (As p.kind),.i (At p.kind)]),(7,.var [.i p.kind,.i p.index,.i p.ty.kind,.s .ty p.ty.args,.slice (.own 8) (.t .tm (p.terms)),.slice (.own 9) (.t .fm (p.Ac.take m)),.slice .nil (.t .pf [])]),(8,.row),(9,.row)]⟩))
    (by omega) (fun m=>rfl) (fun m=>rfl) rfl trivial (M.W [some 0,some 1,some 2,some 3,some 4,some 5,some 6,some 7,some 8,none]) ?_ ?_
   .intro m hm _;have hs2:=za Fm.full (Wi hm);have hc:=Re p.Ac[m] (by omega);(repeat' first|refine M.gw ?_|refine M.c2 (hc) ?_|fail);exact⟨rfl,trivial,(M.W [some 0,some 1,some 2,some 3,some 4,some 5,some 6,some 7,some 8,some 11] (he:=(by(repeat'(first|exact trivial|exact Or.inr ⟨_,U,rfl⟩|refine And.intro ?_ ?_|refine⟨_,U,_,U,_,U,?_⟩|exact Ao.refl _|exact Ao.of_eq (by simp[Aq.Ay,Wv])));done)))⟩
   .intro _;simp only[Wp];(repeat' first|refine M.gw ?_|fail);refine AW.range p.args.length (fun m=>True)
     (fun m=>([(3,.ptr 2 0),(4,.ptr 3 0),(5,.ptr 4 0),(6,.ptr 5 0),(7,.ptr 6 0),(9,.ptr 7 0),(105,.s .pf p.args),(106,.i p.args.length),(107,.i m)],⟨11,[(0,.var [.i fr]),(1,.var [.i by_]),(2,.var p.view),(3,.var [.i v,.i y]),(4,.var [.nilf,.nilf,.fn (.func 249) [] [.ptr 0 0,.ptr 1 0]]),(5,.var [.i 0,.i 0,.i 0,.slice .nil (.t .ty []),.slice .nil (.t .tm []),.slice .nil (.t .fm []),.slice .nil (.t .pf [])]),(6,.var [.bool nd.index,.bool nd.typ,.i nd.terms,.i nd.Ac,.i nd.args,.i (Aw p.kind),.i (As p.kind),.i (At p.kind)]),(7,.var [.i p.kind,.i p.index,.i p.ty.kind,.s .ty p.ty.args,.slice (.own 8) (.t .tm (p.terms)),.slice (.own 9) (.t .fm (p.Ac)),.slice (.own 10) (.t .pf ((Pf.DZ fr by_ y (At p.kind) p.args).take m))]),(8,.row),(9,.row),(10,.row)]⟩))
     (by omega) (fun m=>rfl) (fun m=>rfl) rfl trivial (M.W [some 0,some 1,some 2,some 3,some 4,some 5,some 6,some 7,some 8,some 9,none]) ?_ ?_
    .intro m hm _;have hs2:=za Pf.full (Wi hm);have hb:=hpl m (by omega);have hc:=ih p.args[m] (if(m:Int)=(nd.args:Int)-1 then v+As p.kind else v) (if m+1=p.args.length then y+At p.kind else y) (by omega) (by omega) (by split<;>omega) (by split<;>omega) (hpf _ (Wi hm));have ev:(if(m:Int)=(nd.args:Int)-1 then y+At p.kind else y)=(if m+1=p.args.length then y+At p.kind else y):=by
      by_cases hx:m+1=p.args.length
      .rw[if_pos hx,if_pos (by omega)]
      .rw[if_neg hx,if_neg (by omega)]
     rw[ev] at hb;(repeat' first|refine M.gw ?_|refine M.c2 (hb) ?_|refine M.cv (hc) [0,1] 0 ?_|fail);exact⟨rfl,trivial,(M.W [some 0,some 1,some 2,some 3,some 4,some 5,some 6,some 7,some 8,some 9,some 12] (he:=(by(repeat'(first|exact trivial|exact Or.inr ⟨_,U,rfl⟩|refine And.intro ?_ ?_|refine⟨_,U,_,U,_,U,?_⟩|exact Ao.refl _|exact Ao.of_eq (by simp[Aq.Ay,Yba hm])));done)))⟩
    .intro _;simp only[Yfc];(repeat' first|refine M.gw ?_|fail);rw[hre]
     (exact M.n2 [some 0,some 1] (h8:=(by simp[zk,V.wk,V.Ap,zc,Ty.view,Tm.view,hre])))
theorem Ygr(p:Pf)(fr by_:Int)(hp:p.full<5000000000)(hs:p.nd):PC E 225 [.agg p.view,.i fr,.i by_] (.agg (p.hw fr by_ 0).view):=by
 have hc:=Yho fr by_ _ p 0 0 (Wj _) (by omega) (by omega) (by omega) hs;refine M.F Tryz.func225 ?_;(repeat' first|refine M.gw ?_|refine M.cv (hc) [1,2] 0 ?_|fail);simp[zk,V.wk,V.Ap,zc,Ty.view,Tm.view]
end Go.Ab
