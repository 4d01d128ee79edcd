/- A part of this seat's proofs. No conditions. -/
import Derived.Test.YtgjekifepogehaaGreatDoorPST6
namespace Go.Ab
open Go Go.Proofs
set_option maxRecDepth 100000
set_option maxHeartbeats 4000000
set_option linter.all false
theorem Vh(Xs:List Bool)(t:Tm)(bl:Int)(ht:t.full<1099511627776):AC E 166 [.agg t.view,.i bl,.ptr 0 0] ⟨1,[(0,.var [.bool (Xs.all id)])]⟩ (.AM []) ⟨1,[(0,.var [.bool ((Xs++[t.near]).all id)])]⟩:=by
 have hc:=TP t ht;have e:(Xs++[t.near]).all id=(Xs.all id&&t.near):=by simp[Z6]
 rw[e];generalize Xs.all id=b;generalize t.near=c at*;cases b;all_goals
  refine M.F Tryz.func166 ?_;refine M.w1 @hc ?_
  (exact M.n2 Ay (h8:=jI))
theorem YH(Xs:List Bool)(t:Fm)(bl:Int)(ht:t.full<274877906944):AC E 167 [.agg t.view,.i bl,.ptr 0 0] ⟨1,[(0,.var [.bool (Xs.all id)])]⟩ (.AM []) ⟨1,[(0,.var [.bool ((Xs++[t.near]).all id)])]⟩:=by
 have hc:=Ycb t ht;have e:(Xs++[t.near]).all id=(Xs.all id&&t.near):=by simp[Z6]
 rw[e];generalize Xs.all id=b;generalize t.near=c at*;cases b;all_goals
  refine M.F Tryz.func167 ?_;refine M.w1 @hc ?_
  (exact M.n2 Ay (h8:=jI))
theorem Yj6:∀(n:Nat) (p:Pf) (v y:Int) (Xs:List Bool),p.full<=n->n<10000000000->(0<=v/\v+2*n<=50000000000)->(0<=y/\y+2*n<=50000000000)->p.nd->
 AC E 112 [.agg p.view,.agg [.i v,.i y],.agg [.fn (.func 166) [] [.ptr 0 0],.fn (.func 167) [] [.ptr 0 0],.nilf]] ⟨1,[(0,.var [.bool (Xs.all id)])]⟩ (.AM []) ⟨1,[(0,.var [.bool ((Xs++p.CE (fun(_:Int) (t:Tm)=>t.near) (fun(_:Int) (f:Fm)=>f.near) v).all id)])]⟩:=by
 intro n;induction n with
 |zero=>intro p v y Xs hz;have:=p.Ac;omega
 |succ n ih=>
 intro p v y Xs hz hn hv hh hs;have hre:=p.BN (fun(_:Int) (t:Tm)=>t.near) (fun(_:Int) (f:Fm)=>f.near) v;have hsz':=p.Af;have hlen:=zd Pf.full Pf.Ac p.args;have hlen1:=zd Fm.full Fm.Ac p.Aa;have hlen2:=zd Tm.full Tm.Ac p.terms;have hru:=vg p.kind;obtain⟨⟨nd,n1,n4⟩,hpf⟩:=(Pf.Bt p).1 hs;have hal:p.args.length<=2:=by
  exact j7
 have hpl:=fun(m:Nat) (hm:m<=1000000)=>xf p.kind v y nd n1 m hm dY dY;have e2:Dq p.kind=[.bool nd.index,.bool nd.typ,.i nd.terms,.i nd.Aa,.i nd.args,.i (Au p.kind),.i (Ap p.kind),.i (Ar p.kind)]:=fk
 have b1:0<=Ap p.kind/\Ap p.kind<=2:=eT
 have b2:0<=Ar p.kind/\Ar p.kind<=1:=eV
 have b3:0<=Au p.kind/\Au p.kind<=1:=eW
 rw[n1] at hru;simp only[an] at hru;rw[e2] at hru;simp only[e2] at hpl;clear n1 e2;obtain⟨x3,x4,x5,ix,x2⟩:=nd;simp only at n4 hru hpl;cases ix
 .refine M.F Tryz.func112 ?_;refine M.w1 @hru ?_;refine M.rt p.terms.length
   (fun m=>([(3,.ptr 1 0),(4,.ptr 2 0),(5,.ptr 3 0),(6,.ptr 4 0),(33,.s .tm p.terms),(34,.i p.terms.length),(35,.i m)],⟨5,[(0,.var [.bool ((Xs++(p.terms.take m).map ((fun(_:Int) (t:Tm)=>t.near) v)).all id)]),(1,.var p.view),(2,.var [.i v,.i y]),(3,.var [.fn (.func 166) [] [.ptr 0 0],.fn (.func 167) [] [.ptr 0 0],.nilf]),(4,.var [.bool false,.bool x2,.i x3,.i x4,.i x5,.i (Au p.kind),.i (Ap p.kind),.i (Ar p.kind)])]⟩))
   (M.W DT (he:=(by(repeat'(first|exact trivial|refine And.intro ?_ ?_|refine⟨_,U,_,U,_,U,?_⟩|exact Ai.refl _|exact Ai.of_eq fO));done))) ?_ ?_
  .exact kB
  .intro _;simp only[ZF];refine M.w0 ?_;refine M.rt p.Aa.length
    (fun m=>([(3,.ptr 1 0),(4,.ptr 2 0),(5,.ptr 3 0),(6,.ptr 4 0),(50,.s .fm p.Aa),(51,.i p.Aa.length),(52,.i m)],⟨5,[(0,.var [.bool ((Xs++p.terms.map ((fun(_:Int) (t:Tm)=>t.near) v)++(p.Aa.take m).map ((fun(_:Int) (f:Fm)=>f.near) (v+Au p.kind))).all id)]),(1,.var p.view),(2,.var [.i v,.i y]),(3,.var [.fn (.func 166) [] [.ptr 0 0],.fn (.func 167) [] [.ptr 0 0],.nilf]),(4,.var [.bool false,.bool x2,.i x3,.i x4,.i x5,.i (Au p.kind),.i (Ap p.kind),.i (Ar p.kind)])]⟩))
    (M.W DT (he:=(by(repeat'(first|exact trivial|refine And.intro ?_ ?_|refine⟨_,U,_,U,_,U,?_⟩|exact Ai.refl _|exact Ai.of_eq fO));done))) ?_ ?_
   .exact ki
   .intro _;simp only[ZF];refine M.w0 ?_;refine M.rt p.args.length
     (fun m=>([(3,.ptr 1 0),(4,.ptr 2 0),(5,.ptr 3 0),(6,.ptr 4 0),(70,.s .pf p.args),(71,.i p.args.length),(72,.i m)],⟨5,[(0,.var [.bool ((Xs++p.terms.map ((fun(_:Int) (t:Tm)=>t.near) v)++p.Aa.map ((fun(_:Int) (f:Fm)=>f.near) (v+Au p.kind))++((Pf.AN (fun(_:Int) (t:Tm)=>t.near) (fun(_:Int) (f:Fm)=>f.near) v (Ap p.kind) p.args).take m).flatten).all id)]),(1,.var p.view),(2,.var [.i v,.i y]),(3,.var [.fn (.func 166) [] [.ptr 0 0],.fn (.func 167) [] [.ptr 0 0],.nilf]),(4,.var [.bool false,.bool x2,.i x3,.i x4,.i x5,.i (Au p.kind),.i (Ap p.kind),.i (Ar p.kind)])]⟩))
     (M.W DT (he:=(by(repeat'(first|exact trivial|refine And.intro ?_ ?_|refine⟨_,U,_,U,_,U,?_⟩|exact Ai.refl _|exact Ai.of_eq fP));done))) ?_ ?_
    .intro m hm _;have hs2:=zc Pf.full (ZA hm);have hb:=hpl m dY;have hc:=ih p.args[m] (if m+1=p.args.length then v+Ap p.kind else v) (if m+1=p.args.length then y+Ar p.kind else y) (Xs++p.terms.map ((fun(_:Int) (t:Tm)=>t.near) v)++p.Aa.map ((fun(_:Int) (f:Fm)=>f.near) (v+Au p.kind))++((Pf.AN (fun(_:Int) (t:Tm)=>t.near) (fun(_:Int) (f:Fm)=>f.near) v (Ap p.kind) p.args).take m).flatten) dY dY ez ez (hpf _ (ZA hm));have e3:(Xs++p.terms.map ((fun(_:Int) (t:Tm)=>t.near) v)++p.Aa.map ((fun(_:Int) (f:Fm)=>f.near) (v+Au p.kind))++((Pf.AN (fun(_:Int) (t:Tm)=>t.near) (fun(_:Int) (f:Fm)=>f.near) v (Ap p.kind) p.args).take m).flatten)++p.args[m].CE (fun(_:Int) (t:Tm)=>t.near) (fun(_:Int) (f:Fm)=>f.near) (if m+1=p.args.length then v+Ap p.kind else v)=(Xs++p.terms.map ((fun(_:Int) (t:Tm)=>t.near) v)++p.Aa.map ((fun(_:Int) (f:Fm)=>f.near) (v+Au p.kind))++((Pf.AN (fun(_:Int) (t:Tm)=>t.near) (fun(_:Int) (f:Fm)=>f.near) v (Ap p.kind) p.args).take (m+1)).flatten):=jm
     rw[e3] at hc;have ev:(if(m:Int)=(x5:Int)-1 then y+Ar p.kind else y)=(if m+1=p.args.length then y+Ar p.kind else y):=by
      exact jZ
     have ev2:(if(m:Int)=(x5:Int)-1 then v+Ap p.kind else v)=(if m+1=p.args.length then v+Ap p.kind else v):=by
      exact jZ
     rw[ev,ev2] at hb;(repeat' first|refine M.w1 @hb ?_|refine M.cv (hc) [0] 0 ?_|fail);exact⟨rfl,trivial,(M.W DT)⟩
    .exact lu
 .refine M.F Tryz.func112 ?_;refine M.w1 @hru ?_;refine M.rt p.terms.length
   (fun m=>([(3,.ptr 1 0),(4,.ptr 2 0),(5,.ptr 3 0),(6,.ptr 4 0),(33,.s .tm p.terms),(34,.i p.terms.length),(35,.i m)],⟨5,[(0,.var [.bool ((Xs++(p.terms.take m).map ((fun(_:Int) (t:Tm)=>t.near) v)).all id)]),(1,.var p.view),(2,.var [.i v,.i y]),(3,.var [.fn (.func 166) [] [.ptr 0 0],.fn (.func 167) [] [.ptr 0 0],.nilf]),(4,.var [.bool true,.bool x2,.i x3,.i x4,.i x5,.i (Au p.kind),.i (Ap p.kind),.i (Ar p.kind)])]⟩))
   (M.W DT (he:=(by(repeat'(first|exact trivial|refine And.intro ?_ ?_|refine⟨_,U,_,U,_,U,?_⟩|exact Ai.refl _|exact Ai.of_eq fO));done))) ?_ ?_
  .exact kB
  .intro _;simp only[ZF];refine M.w0 ?_;refine M.rt p.Aa.length
    (fun m=>([(3,.ptr 1 0),(4,.ptr 2 0),(5,.ptr 3 0),(6,.ptr 4 0),(50,.s .fm p.Aa),(51,.i p.Aa.length),(52,.i m)],⟨5,[(0,.var [.bool ((Xs++p.terms.map ((fun(_:Int) (t:Tm)=>t.near) v)++(p.Aa.take m).map ((fun(_:Int) (f:Fm)=>f.near) (v+Au p.kind))).all id)]),(1,.var p.view),(2,.var [.i v,.i y]),(3,.var [.fn (.func 166) [] [.ptr 0 0],.fn (.func 167) [] [.ptr 0 0],.nilf]),(4,.var [.bool true,.bool x2,.i x3,.i x4,.i x5,.i (Au p.kind),.i (Ap p.kind),.i (Ar p.kind)])]⟩))
    (M.W DT (he:=(by(repeat'(first|exact trivial|refine And.intro ?_ ?_|refine⟨_,U,_,U,_,U,?_⟩|exact Ai.refl _|exact Ai.of_eq fO));done))) ?_ ?_
   .exact ki
   .intro _;simp only[ZF];refine M.w0 ?_;refine M.rt p.args.length
     (fun m=>([(3,.ptr 1 0),(4,.ptr 2 0),(5,.ptr 3 0),(6,.ptr 4 0),(70,.s .pf p.args),(71,.i p.args.length),(72,.i m)],⟨5,[(0,.var [.bool ((Xs++p.terms.map ((fun(_:Int) (t:Tm)=>t.near) v)++p.Aa.map ((fun(_:Int) (f:Fm)=>f.near) (v+Au p.kind))++((Pf.AN (fun(_:Int) (t:Tm)=>t.near) (fun(_:Int) (f:Fm)=>f.near) v (Ap p.kind) p.args).take m).flatten).all id)]),(1,.var p.view),(2,.var [.i v,.i y]),(3,.var [.fn (.func 166) [] [.ptr 0 0],.fn (.func 167) [] [.ptr 0 0],.nilf]),(4,.var [.bool true,.bool x2,.i x3,.i x4,.i x5,.i (Au p.kind),.i (Ap p.kind),.i (Ar p.kind)])]⟩))
     (M.W DT (he:=(by(repeat'(first|exact trivial|refine And.intro ?_ ?_|refine⟨_,U,_,U,_,U,?_⟩|exact Ai.refl _|exact Ai.of_eq fP));done))) ?_ ?_
    .intro m hm _;have hs2:=zc Pf.full (ZA hm);have hb:=hpl m dY;have hc:=ih p.args[m] (if m+1=p.args.length then v+Ap p.kind else v) (if m+1=p.args.length then y+Ar p.kind else y) (Xs++p.terms.map ((fun(_:Int) (t:Tm)=>t.near) v)++p.Aa.map ((fun(_:Int) (f:Fm)=>f.near) (v+Au p.kind))++((Pf.AN (fun(_:Int) (t:Tm)=>t.near) (fun(_:Int) (f:Fm)=>f.near) v (Ap p.kind) p.args).take m).flatten) dY dY ez ez (hpf _ (ZA hm));have e3:(Xs++p.terms.map ((fun(_:Int) (t:Tm)=>t.near) v)++p.Aa.map ((fun(_:Int) (f:Fm)=>f.near) (v+Au p.kind))++((Pf.AN (fun(_:Int) (t:Tm)=>t.near) (fun(_:Int) (f:Fm)=>f.near) v (Ap p.kind) p.args).take m).flatten)++p.args[m].CE (fun(_:Int) (t:Tm)=>t.near) (fun(_:Int) (f:Fm)=>f.near) (if m+1=p.args.length then v+Ap p.kind else v)=(Xs++p.terms.map ((fun(_:Int) (t:Tm)=>t.near) v)++p.Aa.map ((fun(_:Int) (f:Fm)=>f.near) (v+Au p.kind))++((Pf.AN (fun(_:Int) (t:Tm)=>t.near) (fun(_:Int) (f:Fm)=>f.near) v (Ap p.kind) p.args).take (m+1)).flatten):=jm
     rw[e3] at hc;have ev:(if(m:Int)=(x5:Int)-1 then y+Ar p.kind else y)=(if m+1=p.args.length then y+Ar p.kind else y):=by
      exact jZ
     have ev2:(if(m:Int)=(x5:Int)-1 then v+Ap p.kind else v)=(if m+1=p.args.length then v+Ap p.kind else v):=by
      exact jZ
     rw[ev,ev2] at hb;(repeat' first|refine M.w1 @hb ?_|refine M.cv (hc) [0] 0 ?_|fail);exact⟨rfl,trivial,(M.W DT)⟩
    .exact lu
theorem T0(p:Pf)(hp:p.full<5000000000)(hs:p.nd):PC E 102 [.agg p.view] (.bool p.AL):=by
 have hc:=Yj6 _ p 0 0 [] (ZB _) dY dY dY hs;rw[Z3] at hc;unfold Pf.AL;generalize (p.CE (fun(_:Int) (t:Tm)=>t.near) (fun(_:Int) (f:Fm)=>f.near) 0).all id=b at*;refine M.F Tryz.func102 ?_;(repeat' first|refine M.w0 ?_|refine M.cv (hc) [1] 0 ?_|fail);simp[zh,V.wk,V.An,za,Ty.view,Tm.view]
end Go.Ab
