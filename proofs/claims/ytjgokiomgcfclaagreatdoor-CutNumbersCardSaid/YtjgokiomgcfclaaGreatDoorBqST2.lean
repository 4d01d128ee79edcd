/- A part of the proofs of this seat. No conditions. -/
import Derived.Test.YtjgokiomgcfclaaGreatDoorBqST1
namespace Go.Ab
open Go Go.Proofs
set_option maxRecDepth 100000
set_option maxHeartbeats 4000000
set_option linter.all false
theorem Yo7(a:Int)(s:Tm)(ha:0<=a/\a<100000000000)(hs:s.full<274877906944)(hsi:∀p∈s.vars 0,0<=p.1/\p.1<549755813888)(t:Tm)(bl:Int)(ht:t.full<274877906944)(hb:0<=bl/\bl<100000000000)(hix:∀p∈t.vars 0,0<=p.1/\p.1<549755813888):
 AC E 269 [.agg t.view,.i bl,.ptr 0 0,.ptr 1 0] ⟨2,[(0,.var [.i a]),(1,.var s.view)]⟩ (.agg (t.re (xu (a+bl) s) 0).view) ⟨2,[(0,.var [.i a]),(1,.var s.view)]⟩:=by
 have hc:=RR t (a+bl) s (by omega) hs hsi ht hix;generalize t.re (xu (a+bl) s) 0=u at*;refine M.F Tryz.func269 ?_;(repeat' first|refine M.gw ?_|refine M.c2 (hc) ?_|fail)
 (exact M.n2 [some 0,some 1] (h8:=(by simp[zi,V.wk,V.An,zd,Ty.view,Tm.view,hc])))
theorem Yo2(a:Int)(s:Tm)(ha:0<=a/\a<100000000000)(hs:s.full<274877906944)(hsi:∀p∈s.vars 0,0<=p.1/\p.1<549755813888)(f:Fm)(bl:Int)(ht:f.full<137438953472)(hb:0<=bl/\bl<100000000000)(hix:∀p∈f.AZ 0,∀q∈p.1.vars 0,0<=q.1/\q.1<549755813888):
 AC E 270 [.agg f.view,.i bl,.ptr 0 0,.ptr 1 0] ⟨2,[(0,.var [.i a]),(1,.var s.view)]⟩ (.agg (f.put (a+bl) s).view) ⟨2,[(0,.var [.i a]),(1,.var s.view)]⟩:=by
 have hc:=Xd f (a+bl) s (by omega) hs hsi ht hix;generalize f.put (a+bl) s=F at*;refine M.F Tryz.func270 ?_;(repeat' first|refine M.gw ?_|refine M.c2 (hc) ?_|fail)
 (exact M.n2 [some 0,some 1] (h8:=(by simp[zi,V.wk,V.An,zd,Ty.view,Tm.view,Fm.view])))
theorem Ymm(a:Int)(s:Tm)(ha:0<=a/\a<10000000000)(hs0:s.full<274877906944)(hsi:∀p∈s.vars 0,0<=p.1/\p.1<549755813888):∀(n:Nat) (p:Pf) (v y:Int),p.full<=n->n<10000000000->(0<=v/\v+2*n<=50000000000)->(0<=y/\y+2*n<=50000000000)->p.nd->p.ix 549755813888->
 AC E 87 [.agg p.view,.agg [.i v,.i y],.agg [.fn (.func 269) [] [.ptr 0 0,.ptr 1 0],.fn (.func 270) [] [.ptr 0 0,.ptr 1 0],.nilf]] ⟨2,[(0,.var [.i a]),(1,.var s.view)]⟩ (.agg (p.pt a s v).view) ⟨2,[(0,.var [.i a]),(1,.var s.view)]⟩:=by
 intro n;induction n with
 |zero=>intro p v y hz;have:=p.Aa;omega
 |succ n ih=>
 intro p v y hz hn hv hh hs hix;obtain⟨i1,i2,i3⟩:=(Pf.BA _ p).1 hix;have hre:=p.Ev a s v;have hsz':=p.Ag;have hlen:=zg Pf.full Pf.Aa p.args;have hlen1:=zg Fm.full Fm.Aa p.Ad;have hlen2:=zg Tm.full Tm.Aa p.terms;have hty:=u7 _ p.ty (Nat.le_refl _) (by omega);have hru:=ul p.kind;obtain⟨⟨nd,n1,n4⟩,hpf⟩:=(Pf.BL p).1 hs;have hal:p.args.length<=2:=by
  rw[n4];unfold BX at n1
  repeat(split at n1;· cases n1;decide)
  cases n1
 have hpl:=fun(m:Nat) (hm:m<=1000000)=>xp p.kind v y nd n1 m hm (by omega) (by omega);have e2:C2 p.kind=[.bool nd.index,.bool nd.typ,.i nd.terms,.i nd.Ad,.i nd.args,.i (AK p.kind),.i (Az p.kind),.i (Ay p.kind)]:=by unfold C2;rw[n1]
 have b1:0<=Az p.kind/\Az p.kind<=2:=by unfold Az;split<;>(try split)<;>omega
 have b2:0<=Ay p.kind/\Ay p.kind<=1:=by unfold Ay;split<;>omega
 have b3:0<=AK p.kind/\AK p.kind<=1:=by unfold AK;split<;>omega
 rw[n1] at hru;simp only[Option.isSome_some] at hru;rw[e2] at hru;simp only[e2] at hpl;refine M.F Tryz.func87 ?_;(repeat' first|refine M.gw ?_|refine M.c2 (hru) ?_|refine M.c2 (hty) ?_|refine M.gs ?_ ?_<;>intro h|fail);all_goals
  refine AW.range p.terms.length (fun m=>True)
   (fun m=>([(3,.ptr 2 0),(4,.ptr 3 0),(5,.ptr 4 0),(6,.ptr 5 0),(7,.ptr 6 0),(9,.ptr 7 0),(44,.s .tm p.terms),(45,.i p.terms.length),(46,.i m)],⟨9,[(0,.var [.i a]),(1,.var s.view),(2,.var p.view),(3,.var [.i v,.i y]),(4,.var [.fn (.func 269) [] [.ptr 0 0,.ptr 1 0],.fn (.func 270) [] [.ptr 0 0,.ptr 1 0],.nilf]),(5,.var [.i 0,.i 0,.i 0,.slice .nil (.t .ty []),.slice .nil (.t .tm []),.slice .nil (.t .fm []),.slice .nil (.t .pf [])]),(6,.var [.bool nd.index,.bool nd.typ,.i nd.terms,.i nd.Ad,.i nd.args,.i (AK p.kind),.i (Az p.kind),.i (Ay p.kind)]),(7,.var [.i p.kind,.i p.index,.i p.ty.kind,.s .ty p.ty.args,.slice (.own 8) (.t .tm ((p.terms.take m).map fun t=>t.re (xu (a+v) s) 0)),.slice .nil (.t .fm []),.slice .nil (.t .pf [])]),(8,.row)]⟩))
   (by omega) (fun m=>rfl) (fun m=>rfl) rfl trivial (M.W [some 0,some 1,some 2,some 3,some 4,some 5,some 6,some 7,none]) ?_ ?_
  ·intro m hm _;have hs2:=ze Tm.full (List.getElem_mem hm);have hc:=Yo7 a s (by omega) hs0 hsi p.terms[m] v (by omega) (by omega) (i1 _ (List.getElem_mem hm));(repeat' first|refine M.gw ?_|refine M.cv (hc) [0,1] 0 ?_|fail);exact⟨rfl,trivial,(M.W [some 0,some 1,some 2,some 3,some 4,some 5,some 6,some 7,some 10] (he:=(by(repeat'(first|exact trivial|exact Or.inr ⟨_,U,rfl⟩|refine And.intro ?_ ?_|refine⟨_,U,_,U,_,U,?_⟩|exact Aj.refl _|exact Aj.of_eq (by simp[Ao.Ar,ya _ _ _ hm])));done)))⟩
  ·intro _;simp only[List.take_length];(repeat' first|refine M.gw ?_|fail);refine AW.range p.Ad.length (fun m=>True)
    (fun m=>([(3,.ptr 2 0),(4,.ptr 3 0),(5,.ptr 4 0),(6,.ptr 5 0),(7,.ptr 6 0),(9,.ptr 7 0),(73,.s .fm p.Ad),(74,.i p.Ad.length),(75,.i m)],⟨10,[(0,.var [.i a]),(1,.var s.view),(2,.var p.view),(3,.var [.i v,.i y]),(4,.var [.fn (.func 269) [] [.ptr 0 0,.ptr 1 0],.fn (.func 270) [] [.ptr 0 0,.ptr 1 0],.nilf]),(5,.var [.i 0,.i 0,.i 0,.slice .nil (.t .ty []),.slice .nil (.t .tm []),.slice .nil (.t .fm []),.slice .nil (.t .pf [])]),(6,.var [.bool nd.index,.bool nd.typ,.i nd.terms,.i nd.Ad,.i nd.args,.i (AK p.kind),.i (Az p.kind),.i (Ay p.kind)]),(7,.var [.i p.kind,.i p.index,.i p.ty.kind,.s .ty p.ty.args,.slice (.own 8) (.t .tm (p.terms.map fun t=>t.re (xu (a+v) s) 0)),.slice (.own 9) (.t .fm ((p.Ad.take m).map fun f=>f.put (a+(v+AK p.kind)) s)),.slice .nil (.t .pf [])]),(8,.row),(9,.row)]⟩))
    (by omega) (fun m=>rfl) (fun m=>rfl) rfl trivial (M.W [some 0,some 1,some 2,some 3,some 4,some 5,some 6,some 7,some 8,none]) ?_ ?_
   ·intro m hm _;have hs2:=ze Fm.full (List.getElem_mem hm);have hc:=Yo2 a s (by omega) hs0 hsi p.Ad[m] (v+AK p.kind) (by omega) (by omega) (i2 _ (List.getElem_mem hm));(repeat' first|refine M.gw ?_|refine M.cv (hc) [0,1] 0 ?_|fail);exact⟨rfl,trivial,(M.W [some 0,some 1,some 2,some 3,some 4,some 5,some 6,some 7,some 8,some 11] (he:=(by(repeat'(first|exact trivial|exact Or.inr ⟨_,U,rfl⟩|refine And.intro ?_ ?_|refine⟨_,U,_,U,_,U,?_⟩|exact Aj.refl _|exact Aj.of_eq (by simp[Ao.Ar,ya _ _ _ hm])));done)))⟩
   ·intro _;simp only[List.take_length];(repeat' first|refine M.gw ?_|fail);refine AW.range p.args.length (fun m=>True)
     (fun m=>([(3,.ptr 2 0),(4,.ptr 3 0),(5,.ptr 4 0),(6,.ptr 5 0),(7,.ptr 6 0),(9,.ptr 7 0),(105,.s .pf p.args),(106,.i p.args.length),(107,.i m)],⟨11,[(0,.var [.i a]),(1,.var s.view),(2,.var p.view),(3,.var [.i v,.i y]),(4,.var [.fn (.func 269) [] [.ptr 0 0,.ptr 1 0],.fn (.func 270) [] [.ptr 0 0,.ptr 1 0],.nilf]),(5,.var [.i 0,.i 0,.i 0,.slice .nil (.t .ty []),.slice .nil (.t .tm []),.slice .nil (.t .fm []),.slice .nil (.t .pf [])]),(6,.var [.bool nd.index,.bool nd.typ,.i nd.terms,.i nd.Ad,.i nd.args,.i (AK p.kind),.i (Az p.kind),.i (Ay p.kind)]),(7,.var [.i p.kind,.i p.index,.i p.ty.kind,.s .ty p.ty.args,.slice (.own 8) (.t .tm (p.terms.map fun t=>t.re (xu (a+v) s) 0)),.slice (.own 9) (.t .fm (p.Ad.map fun f=>f.put (a+(v+AK p.kind)) s)),.slice (.own 10) (.t .pf ((Pf.pts a s v (Az p.kind) p.args).take m))]),(8,.row),(9,.row),(10,.row)]⟩))
     (by omega) (fun m=>rfl) (fun m=>rfl) rfl trivial (M.W [some 0,some 1,some 2,some 3,some 4,some 5,some 6,some 7,some 8,some 9,none]) ?_ ?_
    ·intro m hm _;have hs2:=ze Pf.full (List.getElem_mem hm);have hb:=hpl m (by omega);have hc:=ih p.args[m] (if m+1=p.args.length then v+Az p.kind else v) (if(m:Int)=(nd.args:Int)-1 then y+Ay p.kind else y) (by omega) (by omega) (by split<;>omega) (by split<;>omega) (hpf _ (List.getElem_mem hm)) (i3 _ (List.getElem_mem hm));have ev:(if(m:Int)=(nd.args:Int)-1 then v+Az p.kind else v)=(if m+1=p.args.length then v+Az p.kind else v):=by
      by_cases hx:m+1=p.args.length
      ·rw[if_pos hx,if_pos (by omega)]
      ·rw[if_neg hx,if_neg (by omega)]
     rw[ev] at hb;(repeat' first|refine M.gw ?_|refine M.c2 (hb) ?_|refine M.cv (hc) [0,1] 0 ?_|fail);exact⟨rfl,trivial,(M.W [some 0,some 1,some 2,some 3,some 4,some 5,some 6,some 7,some 8,some 9,some 12] (he:=(by(repeat'(first|exact trivial|exact Or.inr ⟨_,U,rfl⟩|refine And.intro ?_ ?_|refine⟨_,U,_,U,_,U,?_⟩|exact Aj.refl _|exact Aj.of_eq (by simp[Ao.Ar,Yd4 hm])));done)))⟩
    ·intro _;simp only[Yhx];(repeat' first|refine M.gw ?_|fail);rw[hre]
     (exact M.n2 [some 0,some 1] (h8:=(by simp[zi,V.wk,V.An,zd,Ty.view,Tm.view,hre])))
theorem Ynk(p:Pf)(a:Int)(s:Tm)(ha:0<=a/\a<10000000000)(hs0:s.full<274877906944)(hsi:∀p∈s.vars 0,0<=p.1/\p.1<549755813888)(hp:p.full<5000000000)(hs:p.nd)(hix:p.ix 549755813888):
 PC E 250 [.agg p.view,.i a,.agg s.view] (.agg (p.pt a s 0).view):=by
 have hc:=Ymm a s ha hs0 hsi _ p 0 0 (Nat.le_refl _) (by omega) (by omega) (by omega) hs hix;generalize p.pt a s 0=P at*;refine M.F Tryz.func250 ?_;(repeat' first|refine M.gw ?_|refine M.cv (hc) [1,2] 0 ?_|fail);simp[zi,V.wk,V.An,zd,Ty.view,Tm.view]
theorem SK(a:Int)(q:Pf)(ha:0<=a/\a<10000000000)(hq:q.full<5000000000)(hqn:q.nd)(v y:Int)(hy:0<=y/\y<100000000000)(p:Pf)(hp:0<=p.index/\p.index<549755813888):
 AC E 265 [.agg p.view,.agg [.i v,.i y],.ptr 0 0,.ptr 1 0] ⟨2,[(0,.var [.i a]),(1,.var q.view)]⟩ (.agg (if p.index-y=a then q.Fw v (a+y) else if p.index-y>a then w8 (p.index-1) else w8 p.index).view) ⟨2,[(0,.var [.i a]),(1,.var q.view)]⟩:=by
 have h1:=P7 (p.index-1);have h2:=P7 p.index;have h3:=Yl1 q 0 v (by omega) (by omega) hqn;have h4:=Ymb (q.uw 0 v 0) 0 (a+y) (by have:=Yhe 0 v q 0;omega) (Ypx 0 v q hqn 0);have e:q.Fw v (a+y)=(q.uw 0 v 0).hw 0 (a+y) 0:=rfl;rw[<-e] at h4;generalize q.Fw v (a+y)=U at*;generalize q.uw 0 v 0=W at*;by_cases h0:p.index-y=a
 ·rw[if_pos h0];refine M.F Tryz.func265 ?_;(repeat' first|refine M.gw ?_|refine M.c2 (h1) ?_|refine M.c2 (h2) ?_|refine M.c2 (h3) ?_|refine M.c2 (h4) ?_|refine M.bl ?_|refine M.cs ?_ ?_<;>intro h|fail);all_goals first|exfalso;simp at h;omega|exfalso;simp_all;done|exact M.n2 [some 0,some 1] (h8:=(by simp[zi,V.wk,V.An,zd,Ty.view,Tm.view,Pf.view]))
 rw[if_neg h0];by_cases h5:p.index-y>a
 ·rw[if_pos h5];refine M.F Tryz.func265 ?_;(repeat' first|refine M.go ?_|refine M.c2 (h1) ?_|refine M.c2 (h2) ?_|refine M.z1 3 ?_|refine M.bl ?_|refine M.cs ?_ ?_<;>intro h|refine M.gk ?_|fail);all_goals first|exfalso;simp at h;omega|exfalso;simp at*;omega|exact M.n2 [some 0,some 1] (h8:=(by simp[zi,V.wk,V.An,zd,Ty.view,Tm.view,Pf.view,w8]))
 ·rw[if_neg h5];refine M.F Tryz.func265 ?_;(repeat' first|refine M.go ?_|refine M.c2 (h1) ?_|refine M.c2 (h2) ?_|refine M.z1 3 ?_|refine M.bl ?_|refine M.cs ?_ ?_<;>intro h|refine M.gk ?_|fail);all_goals first|exfalso;simp at h;omega|exfalso;simp at*;omega|exact M.n2 [some 0,some 1] (h8:=(by simp[zi,V.wk,V.An,zd,Ty.view,Tm.view,Pf.view,w8]))
theorem Ym2(a:Int)(q:Pf)(ha:0<=a/\a<10000000000)(hq:q.full<5000000000)(hqn:q.nd):∀(n:Nat) (p:Pf) (v y:Int),p.full<=n->n<10000000000->(0<=v/\v+2*n<=50000000000)->(0<=y/\y+2*n<=50000000000)->p.nd->p.hx 549755813888->
 AC E 87 [.agg p.view,.agg [.i v,.i y],.agg [.nilf,.nilf,.fn (.func 265) [] [.ptr 0 0,.ptr 1 0]]] ⟨2,[(0,.var [.i a]),(1,.var q.view)]⟩ (.agg (Pf.ph a q v y p).view) ⟨2,[(0,.var [.i a]),(1,.var q.view)]⟩:=by
 intro n;induction n with
 |zero=>intro p v y hz;have:=p.Aa;omega
 |succ n ih=>
 intro p v y hz hn hv hh hs hhx;obtain⟨i1,i2⟩:=(Pf.BS _ p).1 hhx;have hre:=Pf.Ji a q v y p;by_cases hk:p.kind=1
 ·rw[if_pos hk] at hre;rw[hre];have hc:=SK a q ha hq hqn v y (by omega) p (i1 hk);refine M.F Tryz.func87 ?_;(repeat' first|refine M.go ?_|refine M.cv (hc) [0,1] 0 ?_|refine M.gs ?_ ?_<;>intro h|refine M.z1 3 ?_|refine M.gk ?_|fail);all_goals first|exfalso;simp at h;omega|exfalso;simp_all;done|exact M.n2 [some 0,some 1] (h8:=(by simp[zi,V.wk,V.An,zd,Ty.view,Tm.view,Pf.view]))
 rw[if_neg hk] at hre;have hsz':=p.Ag;have hlen:=zg Pf.full Pf.Aa p.args;have hlen1:=zg Fm.full Fm.Aa p.Ad;have hlen2:=zg Tm.full Tm.Aa p.terms;have hty:=u7 _ p.ty (Nat.le_refl _) (by omega);have hru:=ul p.kind;obtain⟨⟨nd,n1,n4⟩,hpf⟩:=(Pf.BL p).1 hs;have hal:p.args.length<=2:=by
  rw[n4];unfold BX at n1
  repeat(split at n1;· cases n1;decide)
  cases n1
 have hpl:=fun(m:Nat) (hm:m<=1000000)=>xp p.kind v y nd n1 m hm (by omega) (by omega);have e2:C2 p.kind=[.bool nd.index,.bool nd.typ,.i nd.terms,.i nd.Ad,.i nd.args,.i (AK p.kind),.i (Az p.kind),.i (Ay p.kind)]:=by unfold C2;rw[n1]
 have b1:0<=Az p.kind/\Az p.kind<=2:=by unfold Az;split<;>(try split)<;>omega
 have b2:0<=Ay p.kind/\Ay p.kind<=1:=by unfold Ay;split<;>omega
 have b3:0<=AK p.kind/\AK p.kind<=1:=by unfold AK;split<;>omega
 rw[n1] at hru;simp only[Option.isSome_some] at hru;rw[e2] at hru;simp only[e2] at hpl;refine M.F Tryz.func87 ?_;(repeat' first|refine M.go ?_|refine M.c2 (hru) ?_|refine M.c2 (hty) ?_|refine M.gs ?_ ?_<;>intro h|refine M.z1 5 ?_|refine M.gk ?_|fail);all_goals first
  |(exfalso;simp at h;omega)
  |skip
 (repeat' first|refine M.gw ?_|fail);all_goals
  refine AW.range p.terms.length (fun m=>True)
   (fun m=>([(3,.ptr 2 0),(4,.ptr 3 0),(5,.ptr 4 0),(6,.ptr 5 0),(7,.ptr 6 0),(9,.ptr 7 0),(44,.s .tm p.terms),(45,.i p.terms.length),(46,.i m)],⟨9,[(0,.var [.i a]),(1,.var q.view),(2,.var p.view),(3,.var [.i v,.i y]),(4,.var [.nilf,.nilf,.fn (.func 265) [] [.ptr 0 0,.ptr 1 0]]),(5,.var [.i 0,.i 0,.i 0,.slice .nil (.t .ty []),.slice .nil (.t .tm []),.slice .nil (.t .fm []),.slice .nil (.t .pf [])]),(6,.var [.bool nd.index,.bool nd.typ,.i nd.terms,.i nd.Ad,.i nd.args,.i (AK p.kind),.i (Az p.kind),.i (Ay p.kind)]),(7,.var [.i p.kind,.i p.index,.i p.ty.kind,.s .ty p.ty.args,.slice (.own 8) (.t .tm (p.terms.take m)),.slice .nil (.t .fm []),.slice .nil (.t .pf [])]),(8,.row)]⟩))
   (by omega) (fun m=>rfl) (fun m=>rfl) rfl trivial (M.W [some 0,some 1,some 2,some 3,some 4,some 5,some 6,some 7,none]) ?_ ?_
  ·intro m hm _;have hs2:=ze Tm.full (List.getElem_mem hm);have hc:=Jk _ p.terms[m] (Nat.le_refl _) (by omega);(repeat' first|refine M.gw ?_|refine M.c2 (hc) ?_|fail);exact⟨rfl,trivial,(M.W [some 0,some 1,some 2,some 3,some 4,some 5,some 6,some 7,some 10] (he:=(by(repeat'(first|exact trivial|exact Or.inr ⟨_,U,rfl⟩|refine And.intro ?_ ?_|refine⟨_,U,_,U,_,U,?_⟩|exact Aj.refl _|exact Aj.of_eq (by simp[Ao.Ar,List.take_append_getElem])));done)))⟩
  ·intro _;simp only[List.take_length];(repeat' first|refine M.gw ?_|fail);refine AW.range p.Ad.length (fun m=>True)
    (fun m=>([(3,.ptr 2 0),(4,.ptr 3 0),(5,.ptr 4 0),(6,.ptr 5 0),(7,.ptr 6 0),(9,.ptr 7 0),(73,.s .fm p.Ad),(74,.i p.Ad.length),(75,.i m)],⟨10,[(0,.var [.i a]),(1,.var q.view),(2,.var p.view),(3,.var [.i v,.i y]),(4,.var [.nilf,.nilf,.fn (.func 265) [] [.ptr 0 0,.ptr 1 0]]),(5,.var [.i 0,.i 0,.i 0,.slice .nil (.t .ty []),.slice .nil (.t .tm []),.slice .nil (.t .fm []),.slice .nil (.t .pf [])]),(6,.var [.bool nd.index,.bool nd.typ,.i nd.terms,.i nd.Ad,.i nd.args,.i (AK p.kind),.i (Az p.kind),.i (Ay p.kind)]),(7,.var [.i p.kind,.i p.index,.i p.ty.kind,.s .ty p.ty.args,.slice (.own 8) (.t .tm (p.terms)),.slice (.own 9) (.t .fm (p.Ad.take m)),.slice .nil (.t .pf [])]),(8,.row),(9,.row)]⟩))
    (by omega) (fun m=>rfl) (fun m=>rfl) rfl trivial (M.W [some 0,some 1,some 2,some 3,some 4,some 5,some 6,some 7,some 8,none]) ?_ ?_
   ·intro m hm _;have hs2:=ze Fm.full (List.getElem_mem hm);have hc:=KK p.Ad[m] (by omega);(repeat' first|refine M.gw ?_|refine M.c2 (hc) ?_|fail);exact⟨rfl,trivial,(M.W [some 0,some 1,some 2,some 3,some 4,some 5,some 6,some 7,some 8,some 11] (he:=(by(repeat'(first|exact trivial|exact Or.inr ⟨_,U,rfl⟩|refine And.intro ?_ ?_|refine⟨_,U,_,U,_,U,?_⟩|exact Aj.refl _|exact Aj.of_eq (by simp[Ao.Ar,List.take_append_getElem])));done)))⟩
   ·intro _;simp only[List.take_length];(repeat' first|refine M.gw ?_|fail);refine AW.range p.args.length (fun m=>True)
     (fun m=>([(3,.ptr 2 0),(4,.ptr 3 0),(5,.ptr 4 0),(6,.ptr 5 0),(7,.ptr 6 0),(9,.ptr 7 0),(105,.s .pf p.args),(106,.i p.args.length),(107,.i m)],⟨11,[(0,.var [.i a]),(1,.var q.view),(2,.var p.view),(3,.var [.i v,.i y]),(4,.var [.nilf,.nilf,.fn (.func 265) [] [.ptr 0 0,.ptr 1 0]]),(5,.var [.i 0,.i 0,.i 0,.slice .nil (.t .ty []),.slice .nil (.t .tm []),.slice .nil (.t .fm []),.slice .nil (.t .pf [])]),(6,.var [.bool nd.index,.bool nd.typ,.i nd.terms,.i nd.Ad,.i nd.args,.i (AK p.kind),.i (Az p.kind),.i (Ay p.kind)]),(7,.var [.i p.kind,.i p.index,.i p.ty.kind,.s .ty p.ty.args,.slice (.own 8) (.t .tm (p.terms)),.slice (.own 9) (.t .fm (p.Ad)),.slice (.own 10) (.t .pf ((Pf.EJ a q v y (Az p.kind) (Ay p.kind) p.args).take m))]),(8,.row),(9,.row),(10,.row)]⟩))
     (by omega) (fun m=>rfl) (fun m=>rfl) rfl trivial (M.W [some 0,some 1,some 2,some 3,some 4,some 5,some 6,some 7,some 8,some 9,none]) ?_ ?_
    ·intro m hm _;have hs2:=ze Pf.full (List.getElem_mem hm);have hb:=hpl m (by omega);have hc:=ih p.args[m] (if m+1=p.args.length then v+Az p.kind else v) (if m+1=p.args.length then y+Ay p.kind else y) (by omega) (by omega) (by split<;>omega) (by split<;>omega) (hpf _ (List.getElem_mem hm)) (i2 hk _ (List.getElem_mem hm));have ev:(if(m:Int)=(nd.args:Int)-1 then y+Ay p.kind else y)=(if m+1=p.args.length then y+Ay p.kind else y):=by
      by_cases hx:m+1=p.args.length
      ·rw[if_pos hx,if_pos (by omega)]
      ·rw[if_neg hx,if_neg (by omega)]
     have ev2:(if(m:Int)=(nd.args:Int)-1 then v+Az p.kind else v)=(if m+1=p.args.length then v+Az p.kind else v):=by
      by_cases hx:m+1=p.args.length
      ·rw[if_pos hx,if_pos (by omega)]
      ·rw[if_neg hx,if_neg (by omega)]
     rw[ev,ev2] at hb;(repeat' first|refine M.gw ?_|refine M.c2 (hb) ?_|refine M.cv (hc) [0,1] 0 ?_|fail);exact⟨rfl,trivial,(M.W [some 0,some 1,some 2,some 3,some 4,some 5,some 6,some 7,some 8,some 9,some 12] (he:=(by(repeat'(first|exact trivial|exact Or.inr ⟨_,U,rfl⟩|refine And.intro ?_ ?_|refine⟨_,U,_,U,_,U,?_⟩|exact Aj.refl _|exact Aj.of_eq (by simp[Ao.Ar,Yff hm])));done)))⟩
    ·intro _;simp only[Ykd];(repeat' first|refine M.gw ?_|fail);rw[hre]
     (exact M.n2 [some 0,some 1] (h8:=(by simp[zi,V.wk,V.An,zd,Ty.view,Tm.view,hre])))
theorem Yk2(p:Pf)(a:Int)(q:Pf)(ha:0<=a/\a<10000000000)(hq:q.full<5000000000)(hqn:q.nd)(hp:p.full<5000000000)(hs:p.nd)(hx:p.hx 549755813888):
 PC E 246 [.agg p.view,.i a,.agg q.view] (.agg (Pf.ph a q 0 0 p).view):=by
 have hc:=Ym2 a q ha hq hqn _ p 0 0 (Nat.le_refl _) (by omega) (by omega) (by omega) hs hx;generalize Pf.ph a q 0 0 p=P at*;refine M.F Tryz.func246 ?_;(repeat' first|refine M.gw ?_|refine M.cv (hc) [1,2] 0 ?_|fail);simp[zi,V.wk,V.An,zd,Ty.view,Tm.view]
theorem Wr(Xs:List Bool)(t:Tm)(bl:Int)(ht:t.full<1099511627776):AC E 130 [.agg t.view,.i bl,.ptr 0 0] ⟨1,[(0,.var [.bool (Xs.all id)])]⟩ (.At []) ⟨1,[(0,.var [.bool ((Xs++[t.near]).all id)])]⟩:=by
 have hc:=L9 t ht;have e:(Xs++[t.near]).all id=(Xs.all id&&t.near):=by simp[List.all_append]
 rw[e];generalize Xs.all id=b;generalize t.near=c at*;cases b;all_goals
  refine M.F Tryz.func130 ?_;(repeat' first|refine M.gw ?_|refine M.c2 (hc) ?_|fail)
  (exact M.n2 [some 0] (h8:=(by simp[zi,V.wk,V.An,zd,Ty.view,Tm.view,Bool.true_and,Bool.false_and])))
theorem Yy(Xs:List Bool)(t:Fm)(bl:Int)(ht:t.full<274877906944):AC E 132 [.agg t.view,.i bl,.ptr 0 0] ⟨1,[(0,.var [.bool (Xs.all id)])]⟩ (.At []) ⟨1,[(0,.var [.bool ((Xs++[t.near]).all id)])]⟩:=by
 have hc:=Vd t ht;have e:(Xs++[t.near]).all id=(Xs.all id&&t.near):=by simp[List.all_append]
 rw[e];generalize Xs.all id=b;generalize t.near=c at*;cases b;all_goals
  refine M.F Tryz.func132 ?_;(repeat' first|refine M.gw ?_|refine M.c2 (hc) ?_|fail)
  (exact M.n2 [some 0] (h8:=(by simp[zi,V.wk,V.An,zd,Ty.view,Tm.view,Bool.true_and,Bool.false_and])))
theorem Ykq:∀(n:Nat) (p:Pf) (v y:Int) (Xs:List Bool),p.full<=n->n<10000000000->(0<=v/\v+2*n<=50000000000)->(0<=y/\y+2*n<=50000000000)->p.nd->
 AC E 84 [.agg p.view,.agg [.i v,.i y],.agg [.fn (.func 130) [] [.ptr 0 0],.fn (.func 132) [] [.ptr 0 0],.nilf]] ⟨1,[(0,.var [.bool (Xs.all id)])]⟩ (.At []) ⟨1,[(0,.var [.bool ((Xs++p.DB (fun(_:Int) (t:Tm)=>t.near) (fun(_:Int) (f:Fm)=>f.near) v).all id)])]⟩:=by
 intro n;induction n with
 |zero=>intro p v y Xs hz;have:=p.Aa;omega
 |succ n ih=>
 intro p v y Xs hz hn hv hh hs;have hre:=p.Co (fun(_:Int) (t:Tm)=>t.near) (fun(_:Int) (f:Fm)=>f.near) v;have hsz':=p.Ag;have hlen:=zg Pf.full Pf.Aa p.args;have hlen1:=zg Fm.full Fm.Aa p.Ad;have hlen2:=zg Tm.full Tm.Aa p.terms;have hru:=ul p.kind;obtain⟨⟨nd,n1,n4⟩,hpf⟩:=(Pf.BL p).1 hs;have hal:p.args.length<=2:=by
  rw[n4];unfold BX at n1
  repeat(split at n1;· cases n1;decide)
  cases n1
 have hpl:=fun(m:Nat) (hm:m<=1000000)=>xp p.kind v y nd n1 m hm (by omega) (by omega);have e2:C2 p.kind=[.bool nd.index,.bool nd.typ,.i nd.terms,.i nd.Ad,.i nd.args,.i (AK p.kind),.i (Az p.kind),.i (Ay p.kind)]:=by unfold C2;rw[n1]
 have b1:0<=Az p.kind/\Az p.kind<=2:=by unfold Az;split<;>(try split)<;>omega
 have b2:0<=Ay p.kind/\Ay p.kind<=1:=by unfold Ay;split<;>omega
 have b3:0<=AK p.kind/\AK p.kind<=1:=by unfold AK;split<;>omega
 rw[n1] at hru;simp only[Option.isSome_some] at hru;rw[e2] at hru;simp only[e2] at hpl;clear n1 e2;obtain⟨x3,x4,x5,ix,x2⟩:=nd;simp only at n4 hru hpl;cases ix
 ·refine M.F Tryz.func84 ?_;(repeat' first|refine M.gw ?_|refine M.c2 (hru) ?_|fail);refine AW.range p.terms.length (fun m=>True)
   (fun m=>([(3,.ptr 1 0),(4,.ptr 2 0),(5,.ptr 3 0),(6,.ptr 4 0),(33,.s .tm p.terms),(34,.i p.terms.length),(35,.i m)],⟨5,[(0,.var [.bool ((Xs++(p.terms.take m).map ((fun(_:Int) (t:Tm)=>t.near) v)).all id)]),(1,.var p.view),(2,.var [.i v,.i y]),(3,.var [.fn (.func 130) [] [.ptr 0 0],.fn (.func 132) [] [.ptr 0 0],.nilf]),(4,.var [.bool false,.bool x2,.i x3,.i x4,.i x5,.i (AK p.kind),.i (Az p.kind),.i (Ay p.kind)])]⟩))
   (by omega) (fun m=>rfl) (fun m=>rfl) U trivial (M.W [some 0,some 1,some 2,some 3,some 4] (he:=(by(repeat'(first|exact trivial|refine And.intro ?_ ?_|refine⟨_,U,_,U,_,U,?_⟩|exact Aj.refl _|exact Aj.of_eq (by simp[Ao.Ar,List.take_zero,List.map_nil,List.append_nil])));done))) ?_ ?_
  ·intro m hm _;have hs2:=ze Tm.full (List.getElem_mem hm);have hc:=Wr (Xs++(p.terms.take m).map ((fun _ t=>t.near) v)) p.terms[m] v (by omega);(repeat' first|refine M.gw ?_|refine M.cv (hc) [0] 0 ?_|fail);exact⟨rfl,trivial,(M.W [some 0,some 1,some 2,some 3,some 4] (he:=(by(repeat'(first|exact trivial|refine And.intro ?_ ?_|refine⟨_,U,_,U,_,U,?_⟩|exact Aj.refl _|exact Aj.of_eq (by simp[Ao.Ar,ya _ _ _ hm,List.append_assoc])));done)))⟩
  ·intro _;simp only[List.take_length];(repeat' first|refine M.gw ?_|fail);refine AW.range p.Ad.length (fun m=>True)
    (fun m=>([(3,.ptr 1 0),(4,.ptr 2 0),(5,.ptr 3 0),(6,.ptr 4 0),(50,.s .fm p.Ad),(51,.i p.Ad.length),(52,.i m)],⟨5,[(0,.var [.bool ((Xs++p.terms.map ((fun(_:Int) (t:Tm)=>t.near) v)++(p.Ad.take m).map ((fun(_:Int) (f:Fm)=>f.near) (v+AK p.kind))).all id)]),(1,.var p.view),(2,.var [.i v,.i y]),(3,.var [.fn (.func 130) [] [.ptr 0 0],.fn (.func 132) [] [.ptr 0 0],.nilf]),(4,.var [.bool false,.bool x2,.i x3,.i x4,.i x5,.i (AK p.kind),.i (Az p.kind),.i (Ay p.kind)])]⟩))
    (by omega) (fun m=>rfl) (fun m=>rfl) U trivial (M.W [some 0,some 1,some 2,some 3,some 4] (he:=(by(repeat'(first|exact trivial|refine And.intro ?_ ?_|refine⟨_,U,_,U,_,U,?_⟩|exact Aj.refl _|exact Aj.of_eq (by simp[Ao.Ar,List.take_zero,List.map_nil,List.append_nil])));done))) ?_ ?_
   ·intro m hm _;have hs2:=ze Fm.full (List.getElem_mem hm);have hc:=Yy (Xs++p.terms.map ((fun _ t=>t.near) v)++(p.Ad.take m).map ((fun _ f=>f.near) (v+AK p.kind))) p.Ad[m] (v+AK p.kind) (by omega);(repeat' first|refine M.gw ?_|refine M.cv (hc) [0] 0 ?_|fail);exact⟨rfl,trivial,(M.W [some 0,some 1,some 2,some 3,some 4] (he:=(by(repeat'(first|exact trivial|refine And.intro ?_ ?_|refine⟨_,U,_,U,_,U,?_⟩|exact Aj.refl _|exact Aj.of_eq (by simp[Ao.Ar,ya _ _ _ hm,List.append_assoc])));done)))⟩
   ·intro _;simp only[List.take_length];(repeat' first|refine M.gw ?_|fail);refine AW.range p.args.length (fun m=>True)
     (fun m=>([(3,.ptr 1 0),(4,.ptr 2 0),(5,.ptr 3 0),(6,.ptr 4 0),(70,.s .pf p.args),(71,.i p.args.length),(72,.i m)],⟨5,[(0,.var [.bool ((Xs++p.terms.map ((fun(_:Int) (t:Tm)=>t.near) v)++p.Ad.map ((fun(_:Int) (f:Fm)=>f.near) (v+AK p.kind))++((Pf.Bo (fun(_:Int) (t:Tm)=>t.near) (fun(_:Int) (f:Fm)=>f.near) v (Az p.kind) p.args).take m).flatten).all id)]),(1,.var p.view),(2,.var [.i v,.i y]),(3,.var [.fn (.func 130) [] [.ptr 0 0],.fn (.func 132) [] [.ptr 0 0],.nilf]),(4,.var [.bool false,.bool x2,.i x3,.i x4,.i x5,.i (AK p.kind),.i (Az p.kind),.i (Ay p.kind)])]⟩))
     (by omega) (fun m=>rfl) (fun m=>rfl) U trivial (M.W [some 0,some 1,some 2,some 3,some 4] (he:=(by(repeat'(first|exact trivial|refine And.intro ?_ ?_|refine⟨_,U,_,U,_,U,?_⟩|exact Aj.refl _|exact Aj.of_eq (by simp[Ao.Ar,List.take_zero,List.flatten_nil,List.append_nil])));done))) ?_ ?_
    ·intro m hm _;have hs2:=ze Pf.full (List.getElem_mem hm);have hb:=hpl m (by omega);have hc:=ih p.args[m] (if m+1=p.args.length then v+Az p.kind else v) (if m+1=p.args.length then y+Ay p.kind else y) (Xs++p.terms.map ((fun(_:Int) (t:Tm)=>t.near) v)++p.Ad.map ((fun(_:Int) (f:Fm)=>f.near) (v+AK p.kind))++((Pf.Bo (fun(_:Int) (t:Tm)=>t.near) (fun(_:Int) (f:Fm)=>f.near) v (Az p.kind) p.args).take m).flatten) (by omega) (by omega) (by split<;>omega) (by split<;>omega) (hpf _ (List.getElem_mem hm));have e3:(Xs++p.terms.map ((fun(_:Int) (t:Tm)=>t.near) v)++p.Ad.map ((fun(_:Int) (f:Fm)=>f.near) (v+AK p.kind))++((Pf.Bo (fun(_:Int) (t:Tm)=>t.near) (fun(_:Int) (f:Fm)=>f.near) v (Az p.kind) p.args).take m).flatten)++p.args[m].DB (fun(_:Int) (t:Tm)=>t.near) (fun(_:Int) (f:Fm)=>f.near) (if m+1=p.args.length then v+Az p.kind else v)=(Xs++p.terms.map ((fun(_:Int) (t:Tm)=>t.near) v)++p.Ad.map ((fun(_:Int) (f:Fm)=>f.near) (v+AK p.kind))++((Pf.Bo (fun(_:Int) (t:Tm)=>t.near) (fun(_:Int) (f:Fm)=>f.near) v (Az p.kind) p.args).take (m+1)).flatten):=by rw[List.append_assoc,Pt (fun(_:Int) (t:Tm)=>t.near) (fun(_:Int) (f:Fm)=>f.near) hm]
     rw[e3] at hc;have ev:(if(m:Int)=(x5:Int)-1 then y+Ay p.kind else y)=(if m+1=p.args.length then y+Ay p.kind else y):=by
      by_cases hx:m+1=p.args.length
      ·rw[if_pos hx,if_pos (by omega)]
      ·rw[if_neg hx,if_neg (by omega)]
     have ev2:(if(m:Int)=(x5:Int)-1 then v+Az p.kind else v)=(if m+1=p.args.length then v+Az p.kind else v):=by
      by_cases hx:m+1=p.args.length
      ·rw[if_pos hx,if_pos (by omega)]
      ·rw[if_neg hx,if_neg (by omega)]
     rw[ev,ev2] at hb;(repeat' first|refine M.gw ?_|refine M.c2 (hb) ?_|refine M.cv (hc) [0] 0 ?_|fail);exact⟨rfl,trivial,(M.W [some 0,some 1,some 2,some 3,some 4])⟩
    ·intro _;rw[hre];simp only[Qh];skip
     (exact M.n2 [some 0] (h6:=(by(repeat'(first|exact trivial|refine And.intro ?_ ?_|refine⟨_,U,_,U,_,U,?_⟩|exact Aj.of_eq (by simp[Ao.Ar,List.append_assoc])));done)) (h8:=(by simp[zi,V.wk,V.An,zd,Ty.view,Tm.view,List.append_assoc])))
 ·refine M.F Tryz.func84 ?_;(repeat' first|refine M.gw ?_|refine M.c2 (hru) ?_|fail);refine AW.range p.terms.length (fun m=>True)
   (fun m=>([(3,.ptr 1 0),(4,.ptr 2 0),(5,.ptr 3 0),(6,.ptr 4 0),(33,.s .tm p.terms),(34,.i p.terms.length),(35,.i m)],⟨5,[(0,.var [.bool ((Xs++(p.terms.take m).map ((fun(_:Int) (t:Tm)=>t.near) v)).all id)]),(1,.var p.view),(2,.var [.i v,.i y]),(3,.var [.fn (.func 130) [] [.ptr 0 0],.fn (.func 132) [] [.ptr 0 0],.nilf]),(4,.var [.bool true,.bool x2,.i x3,.i x4,.i x5,.i (AK p.kind),.i (Az p.kind),.i (Ay p.kind)])]⟩))
   (by omega) (fun m=>rfl) (fun m=>rfl) U trivial (M.W [some 0,some 1,some 2,some 3,some 4] (he:=(by(repeat'(first|exact trivial|refine And.intro ?_ ?_|refine⟨_,U,_,U,_,U,?_⟩|exact Aj.refl _|exact Aj.of_eq (by simp[Ao.Ar,List.take_zero,List.map_nil,List.append_nil])));done))) ?_ ?_
  ·intro m hm _;have hs2:=ze Tm.full (List.getElem_mem hm);have hc:=Wr (Xs++(p.terms.take m).map ((fun _ t=>t.near) v)) p.terms[m] v (by omega);(repeat' first|refine M.gw ?_|refine M.cv (hc) [0] 0 ?_|fail);exact⟨rfl,trivial,(M.W [some 0,some 1,some 2,some 3,some 4] (he:=(by(repeat'(first|exact trivial|refine And.intro ?_ ?_|refine⟨_,U,_,U,_,U,?_⟩|exact Aj.refl _|exact Aj.of_eq (by simp[Ao.Ar,ya _ _ _ hm,List.append_assoc])));done)))⟩
  ·intro _;simp only[List.take_length];(repeat' first|refine M.gw ?_|fail);refine AW.range p.Ad.length (fun m=>True)
    (fun m=>([(3,.ptr 1 0),(4,.ptr 2 0),(5,.ptr 3 0),(6,.ptr 4 0),(50,.s .fm p.Ad),(51,.i p.Ad.length),(52,.i m)],⟨5,[(0,.var [.bool ((Xs++p.terms.map ((fun(_:Int) (t:Tm)=>t.near) v)++(p.Ad.take m).map ((fun(_:Int) (f:Fm)=>f.near) (v+AK p.kind))).all id)]),(1,.var p.view),(2,.var [.i v,.i y]),(3,.var [.fn (.func 130) [] [.ptr 0 0],.fn (.func 132) [] [.ptr 0 0],.nilf]),(4,.var [.bool true,.bool x2,.i x3,.i x4,.i x5,.i (AK p.kind),.i (Az p.kind),.i (Ay p.kind)])]⟩))
    (by omega) (fun m=>rfl) (fun m=>rfl) U trivial (M.W [some 0,some 1,some 2,some 3,some 4] (he:=(by(repeat'(first|exact trivial|refine And.intro ?_ ?_|refine⟨_,U,_,U,_,U,?_⟩|exact Aj.refl _|exact Aj.of_eq (by simp[Ao.Ar,List.take_zero,List.map_nil,List.append_nil])));done))) ?_ ?_
   ·intro m hm _;have hs2:=ze Fm.full (List.getElem_mem hm);have hc:=Yy (Xs++p.terms.map ((fun _ t=>t.near) v)++(p.Ad.take m).map ((fun _ f=>f.near) (v+AK p.kind))) p.Ad[m] (v+AK p.kind) (by omega);(repeat' first|refine M.gw ?_|refine M.cv (hc) [0] 0 ?_|fail);exact⟨rfl,trivial,(M.W [some 0,some 1,some 2,some 3,some 4] (he:=(by(repeat'(first|exact trivial|refine And.intro ?_ ?_|refine⟨_,U,_,U,_,U,?_⟩|exact Aj.refl _|exact Aj.of_eq (by simp[Ao.Ar,ya _ _ _ hm,List.append_assoc])));done)))⟩
   ·intro _;simp only[List.take_length];(repeat' first|refine M.gw ?_|fail);refine AW.range p.args.length (fun m=>True)
     (fun m=>([(3,.ptr 1 0),(4,.ptr 2 0),(5,.ptr 3 0),(6,.ptr 4 0),(70,.s .pf p.args),(71,.i p.args.length),(72,.i m)],⟨5,[(0,.var [.bool ((Xs++p.terms.map ((fun(_:Int) (t:Tm)=>t.near) v)++p.Ad.map ((fun(_:Int) (f:Fm)=>f.near) (v+AK p.kind))++((Pf.Bo (fun(_:Int) (t:Tm)=>t.near) (fun(_:Int) (f:Fm)=>f.near) v (Az p.kind) p.args).take m).flatten).all id)]),(1,.var p.view),(2,.var [.i v,.i y]),(3,.var [.fn (.func 130) [] [.ptr 0 0],.fn (.func 132) [] [.ptr 0 0],.nilf]),(4,.var [.bool true,.bool x2,.i x3,.i x4,.i x5,.i (AK p.kind),.i (Az p.kind),.i (Ay p.kind)])]⟩))
     (by omega) (fun m=>rfl) (fun m=>rfl) U trivial (M.W [some 0,some 1,some 2,some 3,some 4] (he:=(by(repeat'(first|exact trivial|refine And.intro ?_ ?_|refine⟨_,U,_,U,_,U,?_⟩|exact Aj.refl _|exact Aj.of_eq (by simp[Ao.Ar,List.take_zero,List.flatten_nil,List.append_nil])));done))) ?_ ?_
    ·intro m hm _;have hs2:=ze Pf.full (List.getElem_mem hm);have hb:=hpl m (by omega);have hc:=ih p.args[m] (if m+1=p.args.length then v+Az p.kind else v) (if m+1=p.args.length then y+Ay p.kind else y) (Xs++p.terms.map ((fun(_:Int) (t:Tm)=>t.near) v)++p.Ad.map ((fun(_:Int) (f:Fm)=>f.near) (v+AK p.kind))++((Pf.Bo (fun(_:Int) (t:Tm)=>t.near) (fun(_:Int) (f:Fm)=>f.near) v (Az p.kind) p.args).take m).flatten) (by omega) (by omega) (by split<;>omega) (by split<;>omega) (hpf _ (List.getElem_mem hm));have e3:(Xs++p.terms.map ((fun(_:Int) (t:Tm)=>t.near) v)++p.Ad.map ((fun(_:Int) (f:Fm)=>f.near) (v+AK p.kind))++((Pf.Bo (fun(_:Int) (t:Tm)=>t.near) (fun(_:Int) (f:Fm)=>f.near) v (Az p.kind) p.args).take m).flatten)++p.args[m].DB (fun(_:Int) (t:Tm)=>t.near) (fun(_:Int) (f:Fm)=>f.near) (if m+1=p.args.length then v+Az p.kind else v)=(Xs++p.terms.map ((fun(_:Int) (t:Tm)=>t.near) v)++p.Ad.map ((fun(_:Int) (f:Fm)=>f.near) (v+AK p.kind))++((Pf.Bo (fun(_:Int) (t:Tm)=>t.near) (fun(_:Int) (f:Fm)=>f.near) v (Az p.kind) p.args).take (m+1)).flatten):=by rw[List.append_assoc,Pt (fun(_:Int) (t:Tm)=>t.near) (fun(_:Int) (f:Fm)=>f.near) hm]
     rw[e3] at hc;have ev:(if(m:Int)=(x5:Int)-1 then y+Ay p.kind else y)=(if m+1=p.args.length then y+Ay p.kind else y):=by
      by_cases hx:m+1=p.args.length
      ·rw[if_pos hx,if_pos (by omega)]
      ·rw[if_neg hx,if_neg (by omega)]
     have ev2:(if(m:Int)=(x5:Int)-1 then v+Az p.kind else v)=(if m+1=p.args.length then v+Az p.kind else v):=by
      by_cases hx:m+1=p.args.length
      ·rw[if_pos hx,if_pos (by omega)]
      ·rw[if_neg hx,if_neg (by omega)]
     rw[ev,ev2] at hb;(repeat' first|refine M.gw ?_|refine M.c2 (hb) ?_|refine M.cv (hc) [0] 0 ?_|fail);exact⟨rfl,trivial,(M.W [some 0,some 1,some 2,some 3,some 4])⟩
    ·intro _;rw[hre];simp only[Qh];skip
     (exact M.n2 [some 0] (h6:=(by(repeat'(first|exact trivial|refine And.intro ?_ ?_|refine⟨_,U,_,U,_,U,?_⟩|exact Aj.of_eq (by simp[Ao.Ar,List.append_assoc])));done)) (h8:=(by simp[zi,V.wk,V.An,zd,Ty.view,Tm.view,List.append_assoc])))
theorem Tn(p:Pf)(hp:p.full<5000000000)(hs:p.nd):PC E 82 [.agg p.view] (.bool p.Bh):=by
 have hc:=Ykq _ p 0 0 [] (Nat.le_refl _) (by omega) (by omega) (by omega) hs;rw[List.nil_append] at hc;unfold Pf.Bh;generalize (p.DB (fun(_:Int) (t:Tm)=>t.near) (fun(_:Int) (f:Fm)=>f.near) 0).all id=b at*;refine M.F Tryz.func82 ?_;(repeat' first|refine M.gw ?_|refine M.cv (hc) [1] 0 ?_|fail);simp[zi,V.wk,V.An,zd,Ty.view,Tm.view]
end Go.Ab
