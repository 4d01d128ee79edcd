/- A part of the proofs of this seat. No conditions. -/
import Derived.Test.YtpnbmjgblakifaaGreatDoorST3
namespace Go.Ab
open Go Go.Proofs
set_option maxRecDepth 100000
set_option maxHeartbeats 4000000
set_option linter.all false
theorem Uv(Xs:List Bool)(t:Tm)(bl:Int)(ht:t.full<1099511627776):AC E 138 [.agg t.view,.i bl,.ptr 0 0] ⟨1,[(0,.var [.bool (Xs.all id)])]⟩ (.Az []) ⟨1,[(0,.var [.bool ((Xs++[t.near]).all id)])]⟩:=by
 have hc:=M7 t ht;have e:(Xs++[t.near]).all id=(Xs.all id&&t.near):=by simp[List.all_append]
 rw[e];generalize Xs.all id=b;generalize t.near=c at*;cases b;all_goals
  refine M.F Tryz.func138 ?_;(repeat' first|refine M.gw ?_|refine M.c2 (hc) ?_|fail)
  (exact M.n2 [some 0] (h8:=(by simp[zj,V.wk,V.Ap,za,Ty.view,Tm.view,Bool.true_and,Bool.false_and])))
theorem S8(Xs:List Bool)(t:Fm)(bl:Int)(ht:t.full<274877906944):AC E 139 [.agg t.view,.i bl,.ptr 0 0] ⟨1,[(0,.var [.bool (Xs.all id)])]⟩ (.Az []) ⟨1,[(0,.var [.bool ((Xs++[t.near]).all id)])]⟩:=by
 have hc:=Ybo t ht;have e:(Xs++[t.near]).all id=(Xs.all id&&t.near):=by simp[List.all_append]
 rw[e];generalize Xs.all id=b;generalize t.near=c at*;cases b;all_goals
  refine M.F Tryz.func139 ?_;(repeat' first|refine M.gw ?_|refine M.c2 (hc) ?_|fail)
  (exact M.n2 [some 0] (h8:=(by simp[zj,V.wk,V.Ap,za,Ty.view,Tm.view,Bool.true_and,Bool.false_and])))
theorem Yi5:∀(n:Nat) (p:Pf) (v y:Int) (Xs:List Bool),p.full<=n->n<10000000000->(0<=v/\v+2*n<=50000000000)->(0<=y/\y+2*n<=50000000000)->p.nd->
 AC E 84 [.agg p.view,.agg [.i v,.i y],.agg [.fn (.func 138) [] [.ptr 0 0],.fn (.func 139) [] [.ptr 0 0],.nilf]] ⟨1,[(0,.var [.bool (Xs.all id)])]⟩ (.Az []) ⟨1,[(0,.var [.bool ((Xs++p.Dg (fun(_:Int) (t:Tm)=>t.near) (fun(_:Int) (f:Fm)=>f.near) v).all id)])]⟩:=by
 intro n;induction n with
 |zero=>intro p v y Xs hz;have:=p.Aa;omega
 |succ n ih=>
 intro p v y Xs hz hn hv hh hs;have hre:=p.Ca (fun(_:Int) (t:Tm)=>t.near) (fun(_:Int) (f:Fm)=>f.near) v;have hsz':=p.Ag;have hlen:=zd Pf.full Pf.Aa p.args;have hlen1:=zd Fm.full Fm.Aa p.Ac;have hlen2:=zd Tm.full Tm.Aa p.terms;have hru:=vd p.kind;obtain⟨⟨nd,n1,n4⟩,hpf⟩:=(Pf.Bz p).1 hs;have hal:p.args.length<=2:=by
  rw[n4];unfold BO at n1
  repeat(split at n1;· cases n1;decide)
  cases n1
 have hpl:=fun(m:Nat) (hm:m<=1000000)=>yx p.kind v y nd n1 m hm (by omega) (by omega);have e2:CR p.kind=[.bool nd.index,.bool nd.typ,.i nd.terms,.i nd.Ac,.i nd.args,.i (AD p.kind),.i (As p.kind),.i (At p.kind)]:=by unfold CR;rw[n1]
 have b1:0<=As p.kind/\As p.kind<=2:=by unfold As;split<;>(try split)<;>omega
 have b2:0<=At p.kind/\At p.kind<=1:=by unfold At;split<;>omega
 have b3:0<=AD p.kind/\AD p.kind<=1:=by unfold AD;split<;>omega
 rw[n1] at hru;simp only[Option.isSome_some] at hru;rw[e2] at hru;simp only[e2] at hpl;clear n1 e2;obtain⟨x3,x4,x5,ix,x2⟩:=nd;simp only at n4 hru hpl;cases ix
 ·refine M.F Tryz.func84 ?_;(repeat' first|refine M.gw ?_|refine M.c2 (hru) ?_|fail);refine AW.range p.terms.length (fun m=>True)
   (fun m=>([(3,.ptr 1 0),(4,.ptr 2 0),(5,.ptr 3 0),(6,.ptr 4 0),(33,.s .tm p.terms),(34,.i p.terms.length),(35,.i m)],⟨5,[(0,.var [.bool ((Xs++(p.terms.take m).map ((fun(_:Int) (t:Tm)=>t.near) v)).all id)]),(1,.var p.view),(2,.var [.i v,.i y]),(3,.var [.fn (.func 138) [] [.ptr 0 0],.fn (.func 139) [] [.ptr 0 0],.nilf]),(4,.var [.bool false,.bool x2,.i x3,.i x4,.i x5,.i (AD p.kind),.i (As p.kind),.i (At p.kind)])]⟩))
   (by omega) (fun m=>rfl) (fun m=>rfl) U trivial (M.W [some 0,some 1,some 2,some 3,some 4] (he:=(by(repeat'(first|exact trivial|refine And.intro ?_ ?_|refine⟨_,U,_,U,_,U,?_⟩|exact An.refl _|exact An.of_eq (by simp[Ao.Ax,List.take_zero,List.map_nil,List.append_nil])));done))) ?_ ?_
  ·intro m hm _;have hs2:=zc Tm.full (List.getElem_mem hm);have hc:=Uv (Xs++(p.terms.take m).map ((fun _ t=>t.near) v)) p.terms[m] v (by omega);(repeat' first|refine M.gw ?_|refine M.cv (hc) [0] 0 ?_|fail);exact⟨rfl,trivial,(M.W [some 0,some 1,some 2,some 3,some 4] (he:=(by(repeat'(first|exact trivial|refine And.intro ?_ ?_|refine⟨_,U,_,U,_,U,?_⟩|exact An.refl _|exact An.of_eq (by simp[Ao.Ax,z8 _ _ _ hm,List.append_assoc])));done)))⟩
  ·intro _;simp only[List.take_length];(repeat' first|refine M.gw ?_|fail);refine AW.range p.Ac.length (fun m=>True)
    (fun m=>([(3,.ptr 1 0),(4,.ptr 2 0),(5,.ptr 3 0),(6,.ptr 4 0),(50,.s .fm p.Ac),(51,.i p.Ac.length),(52,.i m)],⟨5,[(0,.var [.bool ((Xs++p.terms.map ((fun(_:Int) (t:Tm)=>t.near) v)++(p.Ac.take m).map ((fun(_:Int) (f:Fm)=>f.near) (v+AD p.kind))).all id)]),(1,.var p.view),(2,.var [.i v,.i y]),(3,.var [.fn (.func 138) [] [.ptr 0 0],.fn (.func 139) [] [.ptr 0 0],.nilf]),(4,.var [.bool false,.bool x2,.i x3,.i x4,.i x5,.i (AD p.kind),.i (As p.kind),.i (At p.kind)])]⟩))
    (by omega) (fun m=>rfl) (fun m=>rfl) U trivial (M.W [some 0,some 1,some 2,some 3,some 4] (he:=(by(repeat'(first|exact trivial|refine And.intro ?_ ?_|refine⟨_,U,_,U,_,U,?_⟩|exact An.refl _|exact An.of_eq (by simp[Ao.Ax,List.take_zero,List.map_nil,List.append_nil])));done))) ?_ ?_
   ·intro m hm _;have hs2:=zc Fm.full (List.getElem_mem hm);have hc:=S8 (Xs++p.terms.map ((fun _ t=>t.near) v)++(p.Ac.take m).map ((fun _ f=>f.near) (v+AD p.kind))) p.Ac[m] (v+AD p.kind) (by omega);(repeat' first|refine M.gw ?_|refine M.cv (hc) [0] 0 ?_|fail);exact⟨rfl,trivial,(M.W [some 0,some 1,some 2,some 3,some 4] (he:=(by(repeat'(first|exact trivial|refine And.intro ?_ ?_|refine⟨_,U,_,U,_,U,?_⟩|exact An.refl _|exact An.of_eq (by simp[Ao.Ax,z8 _ _ _ hm,List.append_assoc])));done)))⟩
   ·intro _;simp only[List.take_length];(repeat' first|refine M.gw ?_|fail);refine AW.range p.args.length (fun m=>True)
     (fun m=>([(3,.ptr 1 0),(4,.ptr 2 0),(5,.ptr 3 0),(6,.ptr 4 0),(70,.s .pf p.args),(71,.i p.args.length),(72,.i m)],⟨5,[(0,.var [.bool ((Xs++p.terms.map ((fun(_:Int) (t:Tm)=>t.near) v)++p.Ac.map ((fun(_:Int) (f:Fm)=>f.near) (v+AD p.kind))++((Pf.Bi (fun(_:Int) (t:Tm)=>t.near) (fun(_:Int) (f:Fm)=>f.near) v (As p.kind) p.args).take m).flatten).all id)]),(1,.var p.view),(2,.var [.i v,.i y]),(3,.var [.fn (.func 138) [] [.ptr 0 0],.fn (.func 139) [] [.ptr 0 0],.nilf]),(4,.var [.bool false,.bool x2,.i x3,.i x4,.i x5,.i (AD p.kind),.i (As p.kind),.i (At p.kind)])]⟩))
     (by omega) (fun m=>rfl) (fun m=>rfl) U trivial (M.W [some 0,some 1,some 2,some 3,some 4] (he:=(by(repeat'(first|exact trivial|refine And.intro ?_ ?_|refine⟨_,U,_,U,_,U,?_⟩|exact An.refl _|exact An.of_eq (by simp[Ao.Ax,List.take_zero,List.flatten_nil,List.append_nil])));done))) ?_ ?_
    ·intro m hm _;have hs2:=zc Pf.full (List.getElem_mem hm);have hb:=hpl m (by omega);have hc:=ih p.args[m] (if m+1=p.args.length then v+As p.kind else v) (if m+1=p.args.length then y+At p.kind else y) (Xs++p.terms.map ((fun(_:Int) (t:Tm)=>t.near) v)++p.Ac.map ((fun(_:Int) (f:Fm)=>f.near) (v+AD p.kind))++((Pf.Bi (fun(_:Int) (t:Tm)=>t.near) (fun(_:Int) (f:Fm)=>f.near) v (As p.kind) p.args).take m).flatten) (by omega) (by omega) (by split<;>omega) (by split<;>omega) (hpf _ (List.getElem_mem hm));have e3:(Xs++p.terms.map ((fun(_:Int) (t:Tm)=>t.near) v)++p.Ac.map ((fun(_:Int) (f:Fm)=>f.near) (v+AD p.kind))++((Pf.Bi (fun(_:Int) (t:Tm)=>t.near) (fun(_:Int) (f:Fm)=>f.near) v (As p.kind) p.args).take m).flatten)++p.args[m].Dg (fun(_:Int) (t:Tm)=>t.near) (fun(_:Int) (f:Fm)=>f.near) (if m+1=p.args.length then v+As p.kind else v)=(Xs++p.terms.map ((fun(_:Int) (t:Tm)=>t.near) v)++p.Ac.map ((fun(_:Int) (f:Fm)=>f.near) (v+AD p.kind))++((Pf.Bi (fun(_:Int) (t:Tm)=>t.near) (fun(_:Int) (f:Fm)=>f.near) v (As p.kind) p.args).take (m+1)).flatten):=by rw[List.append_assoc,Nv (fun(_:Int) (t:Tm)=>t.near) (fun(_:Int) (f:Fm)=>f.near) hm]
     rw[e3] at hc;have ev:(if(m:Int)=(x5:Int)-1 then y+At p.kind else y)=(if m+1=p.args.length then y+At p.kind else y):=by
      by_cases hx:m+1=p.args.length
      ·rw[if_pos hx,if_pos (by omega)]
      ·rw[if_neg hx,if_neg (by omega)]
     have ev2:(if(m:Int)=(x5:Int)-1 then v+As p.kind else v)=(if m+1=p.args.length then v+As p.kind else v):=by
      by_cases hx:m+1=p.args.length
      ·rw[if_pos hx,if_pos (by omega)]
      ·rw[if_neg hx,if_neg (by omega)]
     rw[ev,ev2] at hb;(repeat' first|refine M.gw ?_|refine M.c2 (hb) ?_|refine M.cv (hc) [0] 0 ?_|fail);exact⟨rfl,trivial,(M.W [some 0,some 1,some 2,some 3,some 4])⟩
    ·intro _;rw[hre];simp only[Ni];skip
     (exact M.n2 [some 0] (h6:=(by(repeat'(first|exact trivial|refine And.intro ?_ ?_|refine⟨_,U,_,U,_,U,?_⟩|exact An.of_eq (by simp[Ao.Ax,List.append_assoc])));done)) (h8:=(by simp[zj,V.wk,V.Ap,za,Ty.view,Tm.view,List.append_assoc])))
 ·refine M.F Tryz.func84 ?_;(repeat' first|refine M.gw ?_|refine M.c2 (hru) ?_|fail);refine AW.range p.terms.length (fun m=>True)
   (fun m=>([(3,.ptr 1 0),(4,.ptr 2 0),(5,.ptr 3 0),(6,.ptr 4 0),(33,.s .tm p.terms),(34,.i p.terms.length),(35,.i m)],⟨5,[(0,.var [.bool ((Xs++(p.terms.take m).map ((fun(_:Int) (t:Tm)=>t.near) v)).all id)]),(1,.var p.view),(2,.var [.i v,.i y]),(3,.var [.fn (.func 138) [] [.ptr 0 0],.fn (.func 139) [] [.ptr 0 0],.nilf]),(4,.var [.bool true,.bool x2,.i x3,.i x4,.i x5,.i (AD p.kind),.i (As p.kind),.i (At p.kind)])]⟩))
   (by omega) (fun m=>rfl) (fun m=>rfl) U trivial (M.W [some 0,some 1,some 2,some 3,some 4] (he:=(by(repeat'(first|exact trivial|refine And.intro ?_ ?_|refine⟨_,U,_,U,_,U,?_⟩|exact An.refl _|exact An.of_eq (by simp[Ao.Ax,List.take_zero,List.map_nil,List.append_nil])));done))) ?_ ?_
  ·intro m hm _;have hs2:=zc Tm.full (List.getElem_mem hm);have hc:=Uv (Xs++(p.terms.take m).map ((fun _ t=>t.near) v)) p.terms[m] v (by omega);(repeat' first|refine M.gw ?_|refine M.cv (hc) [0] 0 ?_|fail);exact⟨rfl,trivial,(M.W [some 0,some 1,some 2,some 3,some 4] (he:=(by(repeat'(first|exact trivial|refine And.intro ?_ ?_|refine⟨_,U,_,U,_,U,?_⟩|exact An.refl _|exact An.of_eq (by simp[Ao.Ax,z8 _ _ _ hm,List.append_assoc])));done)))⟩
  ·intro _;simp only[List.take_length];(repeat' first|refine M.gw ?_|fail);refine AW.range p.Ac.length (fun m=>True)
    (fun m=>([(3,.ptr 1 0),(4,.ptr 2 0),(5,.ptr 3 0),(6,.ptr 4 0),(50,.s .fm p.Ac),(51,.i p.Ac.length),(52,.i m)],⟨5,[(0,.var [.bool ((Xs++p.terms.map ((fun(_:Int) (t:Tm)=>t.near) v)++(p.Ac.take m).map ((fun(_:Int) (f:Fm)=>f.near) (v+AD p.kind))).all id)]),(1,.var p.view),(2,.var [.i v,.i y]),(3,.var [.fn (.func 138) [] [.ptr 0 0],.fn (.func 139) [] [.ptr 0 0],.nilf]),(4,.var [.bool true,.bool x2,.i x3,.i x4,.i x5,.i (AD p.kind),.i (As p.kind),.i (At p.kind)])]⟩))
    (by omega) (fun m=>rfl) (fun m=>rfl) U trivial (M.W [some 0,some 1,some 2,some 3,some 4] (he:=(by(repeat'(first|exact trivial|refine And.intro ?_ ?_|refine⟨_,U,_,U,_,U,?_⟩|exact An.refl _|exact An.of_eq (by simp[Ao.Ax,List.take_zero,List.map_nil,List.append_nil])));done))) ?_ ?_
   ·intro m hm _;have hs2:=zc Fm.full (List.getElem_mem hm);have hc:=S8 (Xs++p.terms.map ((fun _ t=>t.near) v)++(p.Ac.take m).map ((fun _ f=>f.near) (v+AD p.kind))) p.Ac[m] (v+AD p.kind) (by omega);(repeat' first|refine M.gw ?_|refine M.cv (hc) [0] 0 ?_|fail);exact⟨rfl,trivial,(M.W [some 0,some 1,some 2,some 3,some 4] (he:=(by(repeat'(first|exact trivial|refine And.intro ?_ ?_|refine⟨_,U,_,U,_,U,?_⟩|exact An.refl _|exact An.of_eq (by simp[Ao.Ax,z8 _ _ _ hm,List.append_assoc])));done)))⟩
   ·intro _;simp only[List.take_length];(repeat' first|refine M.gw ?_|fail);refine AW.range p.args.length (fun m=>True)
     (fun m=>([(3,.ptr 1 0),(4,.ptr 2 0),(5,.ptr 3 0),(6,.ptr 4 0),(70,.s .pf p.args),(71,.i p.args.length),(72,.i m)],⟨5,[(0,.var [.bool ((Xs++p.terms.map ((fun(_:Int) (t:Tm)=>t.near) v)++p.Ac.map ((fun(_:Int) (f:Fm)=>f.near) (v+AD p.kind))++((Pf.Bi (fun(_:Int) (t:Tm)=>t.near) (fun(_:Int) (f:Fm)=>f.near) v (As p.kind) p.args).take m).flatten).all id)]),(1,.var p.view),(2,.var [.i v,.i y]),(3,.var [.fn (.func 138) [] [.ptr 0 0],.fn (.func 139) [] [.ptr 0 0],.nilf]),(4,.var [.bool true,.bool x2,.i x3,.i x4,.i x5,.i (AD p.kind),.i (As p.kind),.i (At p.kind)])]⟩))
     (by omega) (fun m=>rfl) (fun m=>rfl) U trivial (M.W [some 0,some 1,some 2,some 3,some 4] (he:=(by(repeat'(first|exact trivial|refine And.intro ?_ ?_|refine⟨_,U,_,U,_,U,?_⟩|exact An.refl _|exact An.of_eq (by simp[Ao.Ax,List.take_zero,List.flatten_nil,List.append_nil])));done))) ?_ ?_
    ·intro m hm _;have hs2:=zc Pf.full (List.getElem_mem hm);have hb:=hpl m (by omega);have hc:=ih p.args[m] (if m+1=p.args.length then v+As p.kind else v) (if m+1=p.args.length then y+At p.kind else y) (Xs++p.terms.map ((fun(_:Int) (t:Tm)=>t.near) v)++p.Ac.map ((fun(_:Int) (f:Fm)=>f.near) (v+AD p.kind))++((Pf.Bi (fun(_:Int) (t:Tm)=>t.near) (fun(_:Int) (f:Fm)=>f.near) v (As p.kind) p.args).take m).flatten) (by omega) (by omega) (by split<;>omega) (by split<;>omega) (hpf _ (List.getElem_mem hm));have e3:(Xs++p.terms.map ((fun(_:Int) (t:Tm)=>t.near) v)++p.Ac.map ((fun(_:Int) (f:Fm)=>f.near) (v+AD p.kind))++((Pf.Bi (fun(_:Int) (t:Tm)=>t.near) (fun(_:Int) (f:Fm)=>f.near) v (As p.kind) p.args).take m).flatten)++p.args[m].Dg (fun(_:Int) (t:Tm)=>t.near) (fun(_:Int) (f:Fm)=>f.near) (if m+1=p.args.length then v+As p.kind else v)=(Xs++p.terms.map ((fun(_:Int) (t:Tm)=>t.near) v)++p.Ac.map ((fun(_:Int) (f:Fm)=>f.near) (v+AD p.kind))++((Pf.Bi (fun(_:Int) (t:Tm)=>t.near) (fun(_:Int) (f:Fm)=>f.near) v (As p.kind) p.args).take (m+1)).flatten):=by rw[List.append_assoc,Nv (fun(_:Int) (t:Tm)=>t.near) (fun(_:Int) (f:Fm)=>f.near) hm]
     rw[e3] at hc;have ev:(if(m:Int)=(x5:Int)-1 then y+At p.kind else y)=(if m+1=p.args.length then y+At p.kind else y):=by
      by_cases hx:m+1=p.args.length
      ·rw[if_pos hx,if_pos (by omega)]
      ·rw[if_neg hx,if_neg (by omega)]
     have ev2:(if(m:Int)=(x5:Int)-1 then v+As p.kind else v)=(if m+1=p.args.length then v+As p.kind else v):=by
      by_cases hx:m+1=p.args.length
      ·rw[if_pos hx,if_pos (by omega)]
      ·rw[if_neg hx,if_neg (by omega)]
     rw[ev,ev2] at hb;(repeat' first|refine M.gw ?_|refine M.c2 (hb) ?_|refine M.cv (hc) [0] 0 ?_|fail);exact⟨rfl,trivial,(M.W [some 0,some 1,some 2,some 3,some 4])⟩
    ·intro _;rw[hre];simp only[Ni];skip
     (exact M.n2 [some 0] (h6:=(by(repeat'(first|exact trivial|refine And.intro ?_ ?_|refine⟨_,U,_,U,_,U,?_⟩|exact An.of_eq (by simp[Ao.Ax,List.append_assoc])));done)) (h8:=(by simp[zj,V.wk,V.Ap,za,Ty.view,Tm.view,List.append_assoc])))
theorem ND(p:Pf)(hp:p.full<5000000000)(hs:p.nd):PC E 79 [.agg p.view] (.bool p.AN):=by
 have hc:=Yi5 _ p 0 0 [] (Nat.le_refl _) (by omega) (by omega) (by omega) hs;rw[List.nil_append] at hc;unfold Pf.AN;generalize (p.Dg (fun(_:Int) (t:Tm)=>t.near) (fun(_:Int) (f:Fm)=>f.near) 0).all id=b at*;refine M.F Tryz.func79 ?_;(repeat' first|refine M.gw ?_|refine M.cv (hc) [1] 0 ?_|fail);simp[zj,V.wk,V.Ap,za,Ty.view,Tm.view]
theorem V7(n:Int)(b:Bool)(sz ti k:Int)(hs:0<=sz/\sz<=4096)(ht:0<=ti/\ti<=4096)(hk:1<=k/\k<=4096)(hn:0<=n/\n<=17000000000000000):
 AC E 87 [.ptr 0 0,.i sz,.i ti,.i k,.i 4096] ⟨1,[(0,.var [.i n,.bool b])]⟩ (.Az []) ⟨1,[(0,.var [.i (n+ti*(k-1)),.bool (b||decide (sz+ti*(k-1)>4096))])]⟩:=by
 have h3:0<=ti*(k-1):=Int.mul_nonneg ht.1 (by omega);have h4:ti*(k-1)<=4096*4095:=Int.mul_le_mul ht.2 (by omega) (by omega) (by omega);have hm': -9223372036854775808<=ti*(k-1)/\ti*(k-1)<=9223372036854775807:=by omega
 cases b;all_goals
  refine M.F Tryz.func87 ?_;(repeat' first|refine M.gw ?_|fail)
  (exact M.n2 [some 0] (h8:=(by simp[zj,V.wk,V.Ap,za,Ty.view,Tm.view,Bool.true_or,Bool.false_or])))
theorem Xo(a k n0:Int)(ha:0<=a/\a<=4096)(hk:1<=k/\k<=4096)(hn0:0<=n0/\n0<=1000000)(Xs:List (Int×Int))(t:Tm)(bl:Int)(he:t.err=0)(hb:0<=bl/\bl<100000000000)(hix:∀p∈t.vars 0,0<=p.1/\p.1<1099511627776)(hg:CU (Xs++[BE a bl t])):
 AC E 85 [.agg t.view,.i bl,.ptr 0 0,.ptr 1 0,.ptr 2 0] ⟨4,[(0,.var [.ptr 3 0]),(1,.var [.i a]),(2,.var [.i k]),(3,.var [.i (CE n0 k Xs),.bool (CP k Xs)])]⟩ (.Az [])
  ⟨4,[(0,.var [.ptr 3 0]),(1,.var [.i a]),(2,.var [.i k]),(3,.var [.i (CE n0 k (Xs++[BE a bl t])),.bool (CP k (Xs++[BE a bl t]))])]⟩:=by
 have hf:=z9 he;have h1:=LU t (by omega);rw[he,show t.num=t.size by unfold Tm.num;rw[if_pos he]] at h1;have h2:=Xd t (a+bl) (by omega) hix;have hx:=(hg.1 (BE a bl t) (by simp));have hp:=CU.pre (List.prefix_append Xs [BE a bl t]) hg;have hbd:=O5 (n:=n0) hk hn0 hp;have hl:=hp.2;rw[X2,Va];simp only[BE] at hx ⊢;have h3:=V7 (CE n0 k Xs) (CP k Xs) t.size (cnt (a+bl) (t.vars 0)) k hx.1 hx.2 hk (by omega);obtain⟨N0,e1⟩:∃x,x=CE n0 k Xs:=⟨_,rfl⟩;obtain⟨B0,e2⟩:∃x,x=CP k Xs:=⟨_,rfl⟩;rw[<-e1,<-e2] at h3;rw[<-e1,<-e2];clear e1 e2 hbd hp hg hx hl;refine M.F Tryz.func85 ?_;(repeat' first|refine M.gw ?_|refine M.c2 (h1) ?_|refine M.c2 (h2) ?_|refine M.cb (h3) [3] 0 ?_|fail)
 (exact M.n2 [some 0,some 1,some 2,some 3] (h8:=(by simp[zj,V.wk,V.Ap,za,Ty.view,Tm.view,h1])))
theorem Xg(a k n0:Int)(ha:0<=a/\a<=4096)(hk:1<=k/\k<=4096)(hn0:0<=n0/\n0<=1000000)(Xs:List (Int×Int))(t:Fm)(bl:Int)(he:t.err=0)(hb:0<=bl/\bl<100000000000)(hix:∀p∈t.A2 0,∀q∈p.1.vars 0,0<=q.1/\q.1<1099511627776)(hg:CU (Xs++[BK a bl t])):
 AC E 89 [.agg t.view,.i bl,.ptr 0 0,.ptr 1 0,.ptr 2 0] ⟨4,[(0,.var [.ptr 3 0]),(1,.var [.i a]),(2,.var [.i k]),(3,.var [.i (CE n0 k Xs),.bool (CP k Xs)])]⟩ (.Az [])
  ⟨4,[(0,.var [.ptr 3 0]),(1,.var [.i a]),(2,.var [.i k]),(3,.var [.i (CE n0 k (Xs++[BK a bl t])),.bool (CP k (Xs++[BK a bl t]))])]⟩:=by
 have hf:=yf he;have h1:=Q9 t (by omega);rw[he,show t.num=t.size by unfold Fm.num;rw[if_pos he]] at h1;have h2:=Zxi t (a+bl) (by omega) (by omega) hix;have hx:=(hg.1 (BK a bl t) (by simp));have hp:=CU.pre (List.prefix_append Xs [BK a bl t]) hg;have hbd:=O5 (n:=n0) hk hn0 hp;have hl:=hp.2;rw[X2,Va];simp only[BK] at hx ⊢;have h3:=V7 (CE n0 k Xs) (CP k Xs) t.size (ve (a+bl) (t.A2 0)) k hx.1 hx.2 hk (by omega);obtain⟨N0,e1⟩:∃x,x=CE n0 k Xs:=⟨_,rfl⟩;obtain⟨B0,e2⟩:∃x,x=CP k Xs:=⟨_,rfl⟩;rw[<-e1,<-e2] at h3;rw[<-e1,<-e2];clear e1 e2 hbd hp hg hx hl;refine M.F Tryz.func89 ?_;(repeat' first|refine M.gw ?_|refine M.c2 (h1) ?_|refine M.c2 (h2) ?_|refine M.cb (h3) [3] 0 ?_|fail)
 (exact M.n2 [some 0,some 1,some 2,some 3] (h8:=(by simp[zj,V.wk,V.Ap,za,Ty.view,Tm.view,h1])))
theorem Yhs(a k n0:Int)(ha:0<=a/\a<=4096)(hk:1<=k/\k<=4096)(hn0:0<=n0/\n0<=1000000):∀(n:Nat) (p:Pf) (v y:Int) (Xs:List (Int×Int)),p.full<=n->n<10000000000->(0<=v/\v+2*n<=50000000000)->(0<=y/\y+2*n<=50000000000)->p.nd->p.ix 1099511627776->p.shape=true->p.small=true->CU (Xs++p.Dg (BE a) (BK a) v)->
 AC E 84 [.agg p.view,.agg [.i v,.i y],.agg [.fn (.func 85) [] [.ptr 0 0,.ptr 1 0,.ptr 2 0],.fn (.func 89) [] [.ptr 0 0,.ptr 1 0,.ptr 2 0],.nilf]] ⟨4,[(0,.var [.ptr 3 0]),(1,.var [.i a]),(2,.var [.i k]),(3,.var [.i (CE n0 k Xs),.bool (CP k Xs)])]⟩ (.Az []) ⟨4,[(0,.var [.ptr 3 0]),(1,.var [.i a]),(2,.var [.i k]),(3,.var [.i (CE n0 k (Xs++p.Dg (BE a) (BK a) v)),.bool (CP k (Xs++p.Dg (BE a) (BK a) v))])]⟩:=by
 intro n;induction n with
 |zero=>intro p v y Xs hz;have:=p.Aa;omega
 |succ n ih=>
 intro p v y Xs hz hn hv hh hs hix hsh hsm hg;obtain⟨i1,i2,i3⟩:=(Pf.Be _ p).1 hix;obtain⟨s1,s2,s3⟩:=xj hsm;obtain⟨_,s4,s5,s6⟩:=zh hsh;have te:∀t∈p.terms,t.err=0:=fun t h=>(Tm.Ae t).2 ⟨s4 t h,s1 t h⟩;have fe:∀t∈p.Ac,t.err=0:=fun t h=>(Fm.Ae t).2 ⟨s5 t h,s2 t h⟩;have hg0:=hg;rw[p.Ca (BE a) (BK a) v] at hg;have hre:=p.Ca (BE a) (BK a) v;have hsz':=p.Ag;have hlen:=zd Pf.full Pf.Aa p.args;have hlen1:=zd Fm.full Fm.Aa p.Ac;have hlen2:=zd Tm.full Tm.Aa p.terms;have hru:=vd p.kind;obtain⟨⟨nd,n1,n4⟩,hpf⟩:=(Pf.Bz p).1 hs;have hal:p.args.length<=2:=by
  rw[n4];unfold BO at n1
  repeat(split at n1;· cases n1;decide)
  cases n1
 have hpl:=fun(m:Nat) (hm:m<=1000000)=>yx p.kind v y nd n1 m hm (by omega) (by omega);have e2:CR p.kind=[.bool nd.index,.bool nd.typ,.i nd.terms,.i nd.Ac,.i nd.args,.i (AD p.kind),.i (As p.kind),.i (At p.kind)]:=by unfold CR;rw[n1]
 have b1:0<=As p.kind/\As p.kind<=2:=by unfold As;split<;>(try split)<;>omega
 have b2:0<=At p.kind/\At p.kind<=1:=by unfold At;split<;>omega
 have b3:0<=AD p.kind/\AD p.kind<=1:=by unfold AD;split<;>omega
 rw[n1] at hru;simp only[Option.isSome_some] at hru;rw[e2] at hru;simp only[e2] at hpl;clear n1 e2;obtain⟨x3,x4,x5,ix,x2⟩:=nd;simp only at n4 hru hpl;cases ix
 ·refine M.F Tryz.func84 ?_;(repeat' first|refine M.gw ?_|refine M.c2 (hru) ?_|fail);refine AW.range p.terms.length (fun m=>True)
   (fun m=>([(3,.ptr 4 0),(4,.ptr 5 0),(5,.ptr 6 0),(6,.ptr 7 0),(33,.s .tm p.terms),(34,.i p.terms.length),(35,.i m)],⟨8,[(0,.var [.ptr 3 0]),(1,.var [.i a]),(2,.var [.i k]),(3,.var [.i (CE n0 k (Xs++(p.terms.take m).map ((BE a) v))),.bool (CP k (Xs++(p.terms.take m).map ((BE a) v)))]),(4,.var p.view),(5,.var [.i v,.i y]),(6,.var [.fn (.func 85) [] [.ptr 0 0,.ptr 1 0,.ptr 2 0],.fn (.func 89) [] [.ptr 0 0,.ptr 1 0,.ptr 2 0],.nilf]),(7,.var [.bool false,.bool x2,.i x3,.i x4,.i x5,.i (AD p.kind),.i (As p.kind),.i (At p.kind)])]⟩))
   (by omega) (fun m=>rfl) (fun m=>rfl) U trivial (M.W [some 0,some 1,some 2,some 3,some 4,some 5,some 6,some 7] (he:=(by(repeat'(first|exact trivial|refine And.intro ?_ ?_|refine⟨_,U,_,U,_,U,?_⟩|exact An.refl _|exact An.of_eq (by simp[Ao.Ax,List.take_zero,List.map_nil,List.append_nil])));done))) ?_ ?_
  ·intro m hm _;have hs2:=zc Tm.full (List.getElem_mem hm);have hc:=Xo a k n0 ha hk hn0 (Xs++(p.terms.take m).map ((BE a) v)) p.terms[m] v (te _ (List.getElem_mem hm)) (by omega) (i1 _ (List.getElem_mem hm)) (CU.pre (by have:=OC Xs (p.Ac.map ((BK a) (v+AD p.kind))++(Pf.Bi (BE a) (BK a) v (As p.kind) p.args).flatten) p.terms ((BE a) v) m hm;simpa only[List.append_assoc] using this) hg);(repeat' first|refine M.gw ?_|refine M.cv (hc) [0,1,2,3] 0 ?_|fail);exact⟨rfl,trivial,(M.W [some 0,some 1,some 2,some 3,some 4,some 5,some 6,some 7] (he:=(by(repeat'(first|exact trivial|refine And.intro ?_ ?_|refine⟨_,U,_,U,_,U,?_⟩|exact An.refl _|exact An.of_eq (by simp[Ao.Ax,z8 _ _ _ hm,List.append_assoc])));done)))⟩
  ·intro _;simp only[List.take_length];(repeat' first|refine M.gw ?_|fail);refine AW.range p.Ac.length (fun m=>True)
    (fun m=>([(3,.ptr 4 0),(4,.ptr 5 0),(5,.ptr 6 0),(6,.ptr 7 0),(50,.s .fm p.Ac),(51,.i p.Ac.length),(52,.i m)],⟨8,[(0,.var [.ptr 3 0]),(1,.var [.i a]),(2,.var [.i k]),(3,.var [.i (CE n0 k (Xs++p.terms.map ((BE a) v)++(p.Ac.take m).map ((BK a) (v+AD p.kind)))),.bool (CP k (Xs++p.terms.map ((BE a) v)++(p.Ac.take m).map ((BK a) (v+AD p.kind))))]),(4,.var p.view),(5,.var [.i v,.i y]),(6,.var [.fn (.func 85) [] [.ptr 0 0,.ptr 1 0,.ptr 2 0],.fn (.func 89) [] [.ptr 0 0,.ptr 1 0,.ptr 2 0],.nilf]),(7,.var [.bool false,.bool x2,.i x3,.i x4,.i x5,.i (AD p.kind),.i (As p.kind),.i (At p.kind)])]⟩))
    (by omega) (fun m=>rfl) (fun m=>rfl) U trivial (M.W [some 0,some 1,some 2,some 3,some 4,some 5,some 6,some 7] (he:=(by(repeat'(first|exact trivial|refine And.intro ?_ ?_|refine⟨_,U,_,U,_,U,?_⟩|exact An.refl _|exact An.of_eq (by simp[Ao.Ax,List.take_zero,List.map_nil,List.append_nil])));done))) ?_ ?_
   ·intro m hm _;have hs2:=zc Fm.full (List.getElem_mem hm);have hc:=Xg a k n0 ha hk hn0 (Xs++p.terms.map ((BE a) v)++(p.Ac.take m).map ((BK a) (v+AD p.kind))) p.Ac[m] (v+AD p.kind) (fe _ (List.getElem_mem hm)) (by omega) (i2 _ (List.getElem_mem hm)) (CU.pre (by have:=OC (Xs++p.terms.map ((BE a) v)) ((Pf.Bi (BE a) (BK a) v (As p.kind) p.args).flatten) p.Ac ((BK a) (v+AD p.kind)) m hm;simpa only[List.append_assoc] using this) hg);(repeat' first|refine M.gw ?_|refine M.cv (hc) [0,1,2,3] 0 ?_|fail);exact⟨rfl,trivial,(M.W [some 0,some 1,some 2,some 3,some 4,some 5,some 6,some 7] (he:=(by(repeat'(first|exact trivial|refine And.intro ?_ ?_|refine⟨_,U,_,U,_,U,?_⟩|exact An.refl _|exact An.of_eq (by simp[Ao.Ax,z8 _ _ _ hm,List.append_assoc])));done)))⟩
   ·intro _;simp only[List.take_length];(repeat' first|refine M.gw ?_|fail);refine AW.range p.args.length (fun m=>True)
     (fun m=>([(3,.ptr 4 0),(4,.ptr 5 0),(5,.ptr 6 0),(6,.ptr 7 0),(70,.s .pf p.args),(71,.i p.args.length),(72,.i m)],⟨8,[(0,.var [.ptr 3 0]),(1,.var [.i a]),(2,.var [.i k]),(3,.var [.i (CE n0 k (Xs++p.terms.map ((BE a) v)++p.Ac.map ((BK a) (v+AD p.kind))++((Pf.Bi (BE a) (BK a) v (As p.kind) p.args).take m).flatten)),.bool (CP k (Xs++p.terms.map ((BE a) v)++p.Ac.map ((BK a) (v+AD p.kind))++((Pf.Bi (BE a) (BK a) v (As p.kind) p.args).take m).flatten))]),(4,.var p.view),(5,.var [.i v,.i y]),(6,.var [.fn (.func 85) [] [.ptr 0 0,.ptr 1 0,.ptr 2 0],.fn (.func 89) [] [.ptr 0 0,.ptr 1 0,.ptr 2 0],.nilf]),(7,.var [.bool false,.bool x2,.i x3,.i x4,.i x5,.i (AD p.kind),.i (As p.kind),.i (At p.kind)])]⟩))
     (by omega) (fun m=>rfl) (fun m=>rfl) U trivial (M.W [some 0,some 1,some 2,some 3,some 4,some 5,some 6,some 7] (he:=(by(repeat'(first|exact trivial|refine And.intro ?_ ?_|refine⟨_,U,_,U,_,U,?_⟩|exact An.refl _|exact An.of_eq (by simp[Ao.Ax,List.take_zero,List.flatten_nil,List.append_nil])));done))) ?_ ?_
    ·intro m hm _;have hs2:=zc Pf.full (List.getElem_mem hm);have hb:=hpl m (by omega);have hc:=ih p.args[m] (if m+1=p.args.length then v+As p.kind else v) (if m+1=p.args.length then y+At p.kind else y) (Xs++p.terms.map ((BE a) v)++p.Ac.map ((BK a) (v+AD p.kind))++((Pf.Bi (BE a) (BK a) v (As p.kind) p.args).take m).flatten) (by omega) (by omega) (by split<;>omega) (by split<;>omega) (hpf _ (List.getElem_mem hm)) (i3 _ (List.getElem_mem hm)) (s6 _ (List.getElem_mem hm)) (s3 _ (List.getElem_mem hm)) (CU.pre (by have:=NN (Xs++p.terms.map ((BE a) v)++p.Ac.map ((BK a) (v+AD p.kind))) (Pf.Bi (BE a) (BK a) v (As p.kind) p.args) m (by rw[vy];exact hm);rw[um _ _ _ _ _ _ hm] at this;simpa only[List.append_assoc] using this) hg);have e3:(Xs++p.terms.map ((BE a) v)++p.Ac.map ((BK a) (v+AD p.kind))++((Pf.Bi (BE a) (BK a) v (As p.kind) p.args).take m).flatten)++p.args[m].Dg (BE a) (BK a) (if m+1=p.args.length then v+As p.kind else v)=(Xs++p.terms.map ((BE a) v)++p.Ac.map ((BK a) (v+AD p.kind))++((Pf.Bi (BE a) (BK a) v (As p.kind) p.args).take (m+1)).flatten):=by rw[List.append_assoc,Nv (BE a) (BK a) hm]
     rw[e3] at hc;have ev:(if(m:Int)=(x5:Int)-1 then y+At p.kind else y)=(if m+1=p.args.length then y+At p.kind else y):=by
      by_cases hx:m+1=p.args.length
      ·rw[if_pos hx,if_pos (by omega)]
      ·rw[if_neg hx,if_neg (by omega)]
     have ev2:(if(m:Int)=(x5:Int)-1 then v+As p.kind else v)=(if m+1=p.args.length then v+As p.kind else v):=by
      by_cases hx:m+1=p.args.length
      ·rw[if_pos hx,if_pos (by omega)]
      ·rw[if_neg hx,if_neg (by omega)]
     rw[ev,ev2] at hb;(repeat' first|refine M.gw ?_|refine M.c2 (hb) ?_|refine M.cv (hc) [0,1,2,3] 0 ?_|fail);exact⟨rfl,trivial,(M.W [some 0,some 1,some 2,some 3,some 4,some 5,some 6,some 7])⟩
    ·intro _;rw[hre];simp only[Ni];skip
     (exact M.n2 [some 0,some 1,some 2,some 3] (h6:=(by(repeat'(first|exact trivial|refine And.intro ?_ ?_|refine⟨_,U,_,U,_,U,?_⟩|exact An.refl _|exact An.of_eq (by simp[Ao.Ax,List.append_assoc])));done)) (h8:=(by simp[zj,V.wk,V.Ap,za,Ty.view,Tm.view,List.append_assoc])))
 ·refine M.F Tryz.func84 ?_;(repeat' first|refine M.gw ?_|refine M.c2 (hru) ?_|fail);refine AW.range p.terms.length (fun m=>True)
   (fun m=>([(3,.ptr 4 0),(4,.ptr 5 0),(5,.ptr 6 0),(6,.ptr 7 0),(33,.s .tm p.terms),(34,.i p.terms.length),(35,.i m)],⟨8,[(0,.var [.ptr 3 0]),(1,.var [.i a]),(2,.var [.i k]),(3,.var [.i (CE n0 k (Xs++(p.terms.take m).map ((BE a) v))),.bool (CP k (Xs++(p.terms.take m).map ((BE a) v)))]),(4,.var p.view),(5,.var [.i v,.i y]),(6,.var [.fn (.func 85) [] [.ptr 0 0,.ptr 1 0,.ptr 2 0],.fn (.func 89) [] [.ptr 0 0,.ptr 1 0,.ptr 2 0],.nilf]),(7,.var [.bool true,.bool x2,.i x3,.i x4,.i x5,.i (AD p.kind),.i (As p.kind),.i (At p.kind)])]⟩))
   (by omega) (fun m=>rfl) (fun m=>rfl) U trivial (M.W [some 0,some 1,some 2,some 3,some 4,some 5,some 6,some 7] (he:=(by(repeat'(first|exact trivial|refine And.intro ?_ ?_|refine⟨_,U,_,U,_,U,?_⟩|exact An.refl _|exact An.of_eq (by simp[Ao.Ax,List.take_zero,List.map_nil,List.append_nil])));done))) ?_ ?_
  ·intro m hm _;have hs2:=zc Tm.full (List.getElem_mem hm);have hc:=Xo a k n0 ha hk hn0 (Xs++(p.terms.take m).map ((BE a) v)) p.terms[m] v (te _ (List.getElem_mem hm)) (by omega) (i1 _ (List.getElem_mem hm)) (CU.pre (by have:=OC Xs (p.Ac.map ((BK a) (v+AD p.kind))++(Pf.Bi (BE a) (BK a) v (As p.kind) p.args).flatten) p.terms ((BE a) v) m hm;simpa only[List.append_assoc] using this) hg);(repeat' first|refine M.gw ?_|refine M.cv (hc) [0,1,2,3] 0 ?_|fail);exact⟨rfl,trivial,(M.W [some 0,some 1,some 2,some 3,some 4,some 5,some 6,some 7] (he:=(by(repeat'(first|exact trivial|refine And.intro ?_ ?_|refine⟨_,U,_,U,_,U,?_⟩|exact An.refl _|exact An.of_eq (by simp[Ao.Ax,z8 _ _ _ hm,List.append_assoc])));done)))⟩
  ·intro _;simp only[List.take_length];(repeat' first|refine M.gw ?_|fail);refine AW.range p.Ac.length (fun m=>True)
    (fun m=>([(3,.ptr 4 0),(4,.ptr 5 0),(5,.ptr 6 0),(6,.ptr 7 0),(50,.s .fm p.Ac),(51,.i p.Ac.length),(52,.i m)],⟨8,[(0,.var [.ptr 3 0]),(1,.var [.i a]),(2,.var [.i k]),(3,.var [.i (CE n0 k (Xs++p.terms.map ((BE a) v)++(p.Ac.take m).map ((BK a) (v+AD p.kind)))),.bool (CP k (Xs++p.terms.map ((BE a) v)++(p.Ac.take m).map ((BK a) (v+AD p.kind))))]),(4,.var p.view),(5,.var [.i v,.i y]),(6,.var [.fn (.func 85) [] [.ptr 0 0,.ptr 1 0,.ptr 2 0],.fn (.func 89) [] [.ptr 0 0,.ptr 1 0,.ptr 2 0],.nilf]),(7,.var [.bool true,.bool x2,.i x3,.i x4,.i x5,.i (AD p.kind),.i (As p.kind),.i (At p.kind)])]⟩))
    (by omega) (fun m=>rfl) (fun m=>rfl) U trivial (M.W [some 0,some 1,some 2,some 3,some 4,some 5,some 6,some 7] (he:=(by(repeat'(first|exact trivial|refine And.intro ?_ ?_|refine⟨_,U,_,U,_,U,?_⟩|exact An.refl _|exact An.of_eq (by simp[Ao.Ax,List.take_zero,List.map_nil,List.append_nil])));done))) ?_ ?_
   ·intro m hm _;have hs2:=zc Fm.full (List.getElem_mem hm);have hc:=Xg a k n0 ha hk hn0 (Xs++p.terms.map ((BE a) v)++(p.Ac.take m).map ((BK a) (v+AD p.kind))) p.Ac[m] (v+AD p.kind) (fe _ (List.getElem_mem hm)) (by omega) (i2 _ (List.getElem_mem hm)) (CU.pre (by have:=OC (Xs++p.terms.map ((BE a) v)) ((Pf.Bi (BE a) (BK a) v (As p.kind) p.args).flatten) p.Ac ((BK a) (v+AD p.kind)) m hm;simpa only[List.append_assoc] using this) hg);(repeat' first|refine M.gw ?_|refine M.cv (hc) [0,1,2,3] 0 ?_|fail);exact⟨rfl,trivial,(M.W [some 0,some 1,some 2,some 3,some 4,some 5,some 6,some 7] (he:=(by(repeat'(first|exact trivial|refine And.intro ?_ ?_|refine⟨_,U,_,U,_,U,?_⟩|exact An.refl _|exact An.of_eq (by simp[Ao.Ax,z8 _ _ _ hm,List.append_assoc])));done)))⟩
   ·intro _;simp only[List.take_length];(repeat' first|refine M.gw ?_|fail);refine AW.range p.args.length (fun m=>True)
     (fun m=>([(3,.ptr 4 0),(4,.ptr 5 0),(5,.ptr 6 0),(6,.ptr 7 0),(70,.s .pf p.args),(71,.i p.args.length),(72,.i m)],⟨8,[(0,.var [.ptr 3 0]),(1,.var [.i a]),(2,.var [.i k]),(3,.var [.i (CE n0 k (Xs++p.terms.map ((BE a) v)++p.Ac.map ((BK a) (v+AD p.kind))++((Pf.Bi (BE a) (BK a) v (As p.kind) p.args).take m).flatten)),.bool (CP k (Xs++p.terms.map ((BE a) v)++p.Ac.map ((BK a) (v+AD p.kind))++((Pf.Bi (BE a) (BK a) v (As p.kind) p.args).take m).flatten))]),(4,.var p.view),(5,.var [.i v,.i y]),(6,.var [.fn (.func 85) [] [.ptr 0 0,.ptr 1 0,.ptr 2 0],.fn (.func 89) [] [.ptr 0 0,.ptr 1 0,.ptr 2 0],.nilf]),(7,.var [.bool true,.bool x2,.i x3,.i x4,.i x5,.i (AD p.kind),.i (As p.kind),.i (At p.kind)])]⟩))
     (by omega) (fun m=>rfl) (fun m=>rfl) U trivial (M.W [some 0,some 1,some 2,some 3,some 4,some 5,some 6,some 7] (he:=(by(repeat'(first|exact trivial|refine And.intro ?_ ?_|refine⟨_,U,_,U,_,U,?_⟩|exact An.refl _|exact An.of_eq (by simp[Ao.Ax,List.take_zero,List.flatten_nil,List.append_nil])));done))) ?_ ?_
    ·intro m hm _;have hs2:=zc Pf.full (List.getElem_mem hm);have hb:=hpl m (by omega);have hc:=ih p.args[m] (if m+1=p.args.length then v+As p.kind else v) (if m+1=p.args.length then y+At p.kind else y) (Xs++p.terms.map ((BE a) v)++p.Ac.map ((BK a) (v+AD p.kind))++((Pf.Bi (BE a) (BK a) v (As p.kind) p.args).take m).flatten) (by omega) (by omega) (by split<;>omega) (by split<;>omega) (hpf _ (List.getElem_mem hm)) (i3 _ (List.getElem_mem hm)) (s6 _ (List.getElem_mem hm)) (s3 _ (List.getElem_mem hm)) (CU.pre (by have:=NN (Xs++p.terms.map ((BE a) v)++p.Ac.map ((BK a) (v+AD p.kind))) (Pf.Bi (BE a) (BK a) v (As p.kind) p.args) m (by rw[vy];exact hm);rw[um _ _ _ _ _ _ hm] at this;simpa only[List.append_assoc] using this) hg);have e3:(Xs++p.terms.map ((BE a) v)++p.Ac.map ((BK a) (v+AD p.kind))++((Pf.Bi (BE a) (BK a) v (As p.kind) p.args).take m).flatten)++p.args[m].Dg (BE a) (BK a) (if m+1=p.args.length then v+As p.kind else v)=(Xs++p.terms.map ((BE a) v)++p.Ac.map ((BK a) (v+AD p.kind))++((Pf.Bi (BE a) (BK a) v (As p.kind) p.args).take (m+1)).flatten):=by rw[List.append_assoc,Nv (BE a) (BK a) hm]
     rw[e3] at hc;have ev:(if(m:Int)=(x5:Int)-1 then y+At p.kind else y)=(if m+1=p.args.length then y+At p.kind else y):=by
      by_cases hx:m+1=p.args.length
      ·rw[if_pos hx,if_pos (by omega)]
      ·rw[if_neg hx,if_neg (by omega)]
     have ev2:(if(m:Int)=(x5:Int)-1 then v+As p.kind else v)=(if m+1=p.args.length then v+As p.kind else v):=by
      by_cases hx:m+1=p.args.length
      ·rw[if_pos hx,if_pos (by omega)]
      ·rw[if_neg hx,if_neg (by omega)]
     rw[ev,ev2] at hb;(repeat' first|refine M.gw ?_|refine M.c2 (hb) ?_|refine M.cv (hc) [0,1,2,3] 0 ?_|fail);exact⟨rfl,trivial,(M.W [some 0,some 1,some 2,some 3,some 4,some 5,some 6,some 7])⟩
    ·intro _;rw[hre];simp only[Ni];skip
     (exact M.n2 [some 0,some 1,some 2,some 3] (h6:=(by(repeat'(first|exact trivial|refine And.intro ?_ ?_|refine⟨_,U,_,U,_,U,?_⟩|exact An.refl _|exact An.of_eq (by simp[Ao.Ax,List.append_assoc])));done)) (h8:=(by simp[zj,V.wk,V.Ap,za,Ty.view,Tm.view,List.append_assoc])))
theorem SJ(Xs:List Bool)(p:Pf)(v y:Int):AC E 161 [.agg p.view,.agg [.i v,.i y],.ptr 0 0] ⟨1,[(0,.var [.bool (Xs.all id)])]⟩ (.Az []) ⟨1,[(0,.var [.bool ((Xs++C5 p.kind p.index y).all id)])]⟩:=by
 rw[List.all_append];generalize Xs.all id=b;unfold C5;by_cases h1:p.kind=1
 ·rw[if_pos h1];cases b;all_goals
   refine M.F Tryz.func161 ?_;(repeat' first|refine M.gw ?_|refine M.gs ?_ ?_<;>intro h|fail);all_goals first|exfalso;simp at h;exact absurd h1 h|exfalso;simp_all;done|exact M.n2 [some 0] (h6:=(by(repeat'(first|exact trivial|refine And.intro ?_ ?_|refine⟨_,U,_,U,_,U,?_⟩|exact An.refl _|exact An.of_eq (by simp[Ao.Ax,Bool.true_and,Bool.false_and,h1])));done)) (h8:=(by simp[zj,V.wk,V.Ap,za,Ty.view,Tm.view,Bool.true_and,Bool.false_and,h1]))
 ·rw[if_neg h1];cases b;all_goals
   refine M.F Tryz.func161 ?_;(repeat' first|refine M.gw ?_|refine M.gs ?_ ?_<;>intro h|fail);all_goals first|exfalso;simp at h;exact absurd h h1|exfalso;simp_all;done|exact M.n2 [some 0] (h8:=(by simp[zj,V.wk,V.Ap,za,Ty.view,Tm.view,Bool.true_and,Bool.false_and,h1]))
theorem Yhi:∀(n:Nat) (p:Pf) (v y:Int) (Xs:List Bool),p.full<=n->n<10000000000->(0<=v/\v+2*n<=50000000000)->(0<=y/\y+2*n<=50000000000)->p.nd->
 AC E 84 [.agg p.view,.agg [.i v,.i y],.agg [.nilf,.nilf,.fn (.func 161) [] [.ptr 0 0]]] ⟨1,[(0,.var [.bool (Xs.all id)])]⟩ (.Az []) ⟨1,[(0,.var [.bool ((Xs++p.B3 (C5) y).all id)])]⟩:=by
 intro n;induction n with
 |zero=>intro p v y Xs hz;have:=p.Aa;omega
 |succ n ih=>
 intro p v y Xs hz hn hv hh hs;have hre:=p.Bu (C5) y;have hsz':=p.Ag;have hlen:=zd Pf.full Pf.Aa p.args;have hlen1:=zd Fm.full Fm.Aa p.Ac;have hlen2:=zd Tm.full Tm.Aa p.terms;have hru:=vd p.kind;obtain⟨⟨nd,n1,n4⟩,hpf⟩:=(Pf.Bz p).1 hs;have hal:p.args.length<=2:=by
  rw[n4];unfold BO at n1
  repeat(split at n1;· cases n1;decide)
  cases n1
 have hpl:=fun(m:Nat) (hm:m<=1000000)=>yx p.kind v y nd n1 m hm (by omega) (by omega);have e2:CR p.kind=[.bool nd.index,.bool nd.typ,.i nd.terms,.i nd.Ac,.i nd.args,.i (AD p.kind),.i (As p.kind),.i (At p.kind)]:=by unfold CR;rw[n1]
 have b1:0<=As p.kind/\As p.kind<=2:=by unfold As;split<;>(try split)<;>omega
 have b2:0<=At p.kind/\At p.kind<=1:=by unfold At;split<;>omega
 have b3:0<=AD p.kind/\AD p.kind<=1:=by unfold AD;split<;>omega
 rw[n1] at hru;simp only[Option.isSome_some] at hru;rw[e2] at hru;simp only[e2] at hpl;have hlf:=SJ Xs p v y;have hno:nd.index=false->(C5) p.kind p.index y=[]:=fun hi=>by
  have k1:p.kind≠1:=fun e=>by rw[e] at n1;simp[BO] at n1;rw[<-n1] at hi;cases hi
  have k2:p.kind≠2:=fun e=>by rw[e] at n1;simp[BO] at n1;rw[<-n1] at hi;cases hi
  simp[C5,Cq,Cw,k1,k2]
 obtain⟨X1,hX1⟩:∃X1,X1=Xs++(C5) p.kind p.index y:=⟨_,rfl⟩;obtain⟨x3,x4,x5,ix,x2⟩:=nd;simp only at n4 hru hpl hno;cases ix
 ·have hX:X1=Xs:=by rw[hX1,hno rfl,List.append_nil]
  refine M.F Tryz.func84 ?_;(repeat' first|refine M.gw ?_|refine M.c2 (hru) ?_|fail);refine AW.range p.terms.length (fun m=>True)
   (fun m=>([(3,.ptr 1 0),(4,.ptr 2 0),(5,.ptr 3 0),(6,.ptr 4 0),(33,.s .tm p.terms),(34,.i p.terms.length),(35,.i m)],⟨5,[(0,.var [.bool (X1.all id)]),(1,.var p.view),(2,.var [.i v,.i y]),(3,.var [.nilf,.nilf,.fn (.func 161) [] [.ptr 0 0]]),(4,.var [.bool false,.bool x2,.i x3,.i x4,.i x5,.i (AD p.kind),.i (As p.kind),.i (At p.kind)])]⟩))
   (by omega) (fun m=>rfl) (fun m=>rfl) U trivial (M.W [some 0,some 1,some 2,some 3,some 4] (he:=(by(repeat'(first|exact trivial|refine And.intro ?_ ?_|refine⟨_,U,_,U,_,U,?_⟩|exact An.refl _|exact An.of_eq (by simp[Ao.Ax,hX])));done))) ?_ ?_
  ·intro m hm _;(repeat' first|refine M.gw ?_|fail);exact⟨rfl,trivial,(M.W [some 0,some 1,some 2,some 3,some 4])⟩
  ·intro _;skip;(repeat' first|refine M.gw ?_|fail);refine AW.range p.Ac.length (fun m=>True)
    (fun m=>([(3,.ptr 1 0),(4,.ptr 2 0),(5,.ptr 3 0),(6,.ptr 4 0),(50,.s .fm p.Ac),(51,.i p.Ac.length),(52,.i m)],⟨5,[(0,.var [.bool (X1.all id)]),(1,.var p.view),(2,.var [.i v,.i y]),(3,.var [.nilf,.nilf,.fn (.func 161) [] [.ptr 0 0]]),(4,.var [.bool false,.bool x2,.i x3,.i x4,.i x5,.i (AD p.kind),.i (As p.kind),.i (At p.kind)])]⟩))
    (by omega) (fun m=>rfl) (fun m=>rfl) rfl trivial (M.W [some 0,some 1,some 2,some 3,some 4]) ?_ ?_
   ·intro m hm _;(repeat' first|refine M.gw ?_|fail);exact⟨rfl,trivial,(M.W [some 0,some 1,some 2,some 3,some 4])⟩
   ·intro _;skip;(repeat' first|refine M.gw ?_|fail);refine AW.range p.args.length (fun m=>True)
     (fun m=>([(3,.ptr 1 0),(4,.ptr 2 0),(5,.ptr 3 0),(6,.ptr 4 0),(70,.s .pf p.args),(71,.i p.args.length),(72,.i m)],⟨5,[(0,.var [.bool ((X1++((Pf.AM (C5) y (At p.kind) p.args).take m).flatten).all id)]),(1,.var p.view),(2,.var [.i v,.i y]),(3,.var [.nilf,.nilf,.fn (.func 161) [] [.ptr 0 0]]),(4,.var [.bool false,.bool x2,.i x3,.i x4,.i x5,.i (AD p.kind),.i (As p.kind),.i (At p.kind)])]⟩))
     (by omega) (fun m=>rfl) (fun m=>rfl) U trivial (M.W [some 0,some 1,some 2,some 3,some 4] (he:=(by(repeat'(first|exact trivial|refine And.intro ?_ ?_|refine⟨_,U,_,U,_,U,?_⟩|exact An.refl _|exact An.of_eq (by simp[Ao.Ax,List.take_zero,List.flatten_nil,List.append_nil])));done))) ?_ ?_
    ·intro m hm _;have hs2:=zc Pf.full (List.getElem_mem hm);have hb:=hpl m (by omega);have hc:=ih p.args[m] (if m+1=p.args.length then v+As p.kind else v) (if m+1=p.args.length then y+At p.kind else y) (X1++((Pf.AM (C5) y (At p.kind) p.args).take m).flatten) (by omega) (by omega) (by split<;>omega) (by split<;>omega) (hpf _ (List.getElem_mem hm));have e3:(X1++((Pf.AM (C5) y (At p.kind) p.args).take m).flatten)++p.args[m].B3 (C5) (if m+1=p.args.length then y+At p.kind else y)=(X1++((Pf.AM (C5) y (At p.kind) p.args).take (m+1)).flatten):=by rw[List.append_assoc,u4 (C5) hm]
     rw[e3] at hc;have ev:(if(m:Int)=(x5:Int)-1 then y+At p.kind else y)=(if m+1=p.args.length then y+At p.kind else y):=by
      by_cases hx:m+1=p.args.length
      ·rw[if_pos hx,if_pos (by omega)]
      ·rw[if_neg hx,if_neg (by omega)]
     have ev2:(if(m:Int)=(x5:Int)-1 then v+As p.kind else v)=(if m+1=p.args.length then v+As p.kind else v):=by
      by_cases hx:m+1=p.args.length
      ·rw[if_pos hx,if_pos (by omega)]
      ·rw[if_neg hx,if_neg (by omega)]
     rw[ev,ev2] at hb;(repeat' first|refine M.gw ?_|refine M.c2 (hb) ?_|refine M.cv (hc) [0] 0 ?_|fail);exact⟨rfl,trivial,(M.W [some 0,some 1,some 2,some 3,some 4])⟩
    ·intro _;rw[hre];simp only[Ik];skip
     (exact M.n2 [some 0] (h6:=(by(repeat'(first|exact trivial|refine And.intro ?_ ?_|refine⟨_,U,_,U,_,U,?_⟩|exact An.of_eq (by simp[Ao.Ax,hX1,List.append_assoc])));done)) (h8:=(by simp[zj,V.wk,V.Ap,za,Ty.view,Tm.view,hX1,List.append_assoc])))
 ·refine M.F Tryz.func84 ?_;(repeat' first|refine M.gw ?_|refine M.c2 (hru) ?_|refine M.cv (hlf) [0] 0 ?_|fail);refine AW.range p.terms.length (fun m=>True)
   (fun m=>([(3,.ptr 1 0),(4,.ptr 2 0),(5,.ptr 3 0),(6,.ptr 4 0),(33,.s .tm p.terms),(34,.i p.terms.length),(35,.i m)],⟨5,[(0,.var [.bool (X1.all id)]),(1,.var p.view),(2,.var [.i v,.i y]),(3,.var [.nilf,.nilf,.fn (.func 161) [] [.ptr 0 0]]),(4,.var [.bool true,.bool x2,.i x3,.i x4,.i x5,.i (AD p.kind),.i (As p.kind),.i (At p.kind)])]⟩))
   (by omega) (fun m=>rfl) (fun m=>rfl) U trivial (M.W [some 0,some 1,some 2,some 3,some 4] (he:=(by(repeat'(first|exact trivial|refine And.intro ?_ ?_|refine⟨_,U,_,U,_,U,?_⟩|exact An.refl _|exact An.of_eq (by simp[Ao.Ax,hX1])));done))) ?_ ?_
  ·intro m hm _;(repeat' first|refine M.gw ?_|fail);exact⟨rfl,trivial,(M.W [some 0,some 1,some 2,some 3,some 4])⟩
  ·intro _;skip;(repeat' first|refine M.gw ?_|fail);refine AW.range p.Ac.length (fun m=>True)
    (fun m=>([(3,.ptr 1 0),(4,.ptr 2 0),(5,.ptr 3 0),(6,.ptr 4 0),(50,.s .fm p.Ac),(51,.i p.Ac.length),(52,.i m)],⟨5,[(0,.var [.bool (X1.all id)]),(1,.var p.view),(2,.var [.i v,.i y]),(3,.var [.nilf,.nilf,.fn (.func 161) [] [.ptr 0 0]]),(4,.var [.bool true,.bool x2,.i x3,.i x4,.i x5,.i (AD p.kind),.i (As p.kind),.i (At p.kind)])]⟩))
    (by omega) (fun m=>rfl) (fun m=>rfl) rfl trivial (M.W [some 0,some 1,some 2,some 3,some 4]) ?_ ?_
   ·intro m hm _;(repeat' first|refine M.gw ?_|fail);exact⟨rfl,trivial,(M.W [some 0,some 1,some 2,some 3,some 4])⟩
   ·intro _;skip;(repeat' first|refine M.gw ?_|fail);refine AW.range p.args.length (fun m=>True)
     (fun m=>([(3,.ptr 1 0),(4,.ptr 2 0),(5,.ptr 3 0),(6,.ptr 4 0),(70,.s .pf p.args),(71,.i p.args.length),(72,.i m)],⟨5,[(0,.var [.bool ((X1++((Pf.AM (C5) y (At p.kind) p.args).take m).flatten).all id)]),(1,.var p.view),(2,.var [.i v,.i y]),(3,.var [.nilf,.nilf,.fn (.func 161) [] [.ptr 0 0]]),(4,.var [.bool true,.bool x2,.i x3,.i x4,.i x5,.i (AD p.kind),.i (As p.kind),.i (At p.kind)])]⟩))
     (by omega) (fun m=>rfl) (fun m=>rfl) U trivial (M.W [some 0,some 1,some 2,some 3,some 4] (he:=(by(repeat'(first|exact trivial|refine And.intro ?_ ?_|refine⟨_,U,_,U,_,U,?_⟩|exact An.refl _|exact An.of_eq (by simp[Ao.Ax,List.take_zero,List.flatten_nil,List.append_nil])));done))) ?_ ?_
    ·intro m hm _;have hs2:=zc Pf.full (List.getElem_mem hm);have hb:=hpl m (by omega);have hc:=ih p.args[m] (if m+1=p.args.length then v+As p.kind else v) (if m+1=p.args.length then y+At p.kind else y) (X1++((Pf.AM (C5) y (At p.kind) p.args).take m).flatten) (by omega) (by omega) (by split<;>omega) (by split<;>omega) (hpf _ (List.getElem_mem hm));have e3:(X1++((Pf.AM (C5) y (At p.kind) p.args).take m).flatten)++p.args[m].B3 (C5) (if m+1=p.args.length then y+At p.kind else y)=(X1++((Pf.AM (C5) y (At p.kind) p.args).take (m+1)).flatten):=by rw[List.append_assoc,u4 (C5) hm]
     rw[e3] at hc;have ev:(if(m:Int)=(x5:Int)-1 then y+At p.kind else y)=(if m+1=p.args.length then y+At p.kind else y):=by
      by_cases hx:m+1=p.args.length
      ·rw[if_pos hx,if_pos (by omega)]
      ·rw[if_neg hx,if_neg (by omega)]
     have ev2:(if(m:Int)=(x5:Int)-1 then v+As p.kind else v)=(if m+1=p.args.length then v+As p.kind else v):=by
      by_cases hx:m+1=p.args.length
      ·rw[if_pos hx,if_pos (by omega)]
      ·rw[if_neg hx,if_neg (by omega)]
     rw[ev,ev2] at hb;(repeat' first|refine M.gw ?_|refine M.c2 (hb) ?_|refine M.cv (hc) [0] 0 ?_|fail);exact⟨rfl,trivial,(M.W [some 0,some 1,some 2,some 3,some 4])⟩
    ·intro _;rw[hre];simp only[Ik];skip
     (exact M.n2 [some 0] (h6:=(by(repeat'(first|exact trivial|refine And.intro ?_ ?_|refine⟨_,U,_,U,_,U,?_⟩|exact An.of_eq (by simp[Ao.Ax,hX1,List.append_assoc])));done)) (h8:=(by simp[zj,V.wk,V.Ap,za,Ty.view,Tm.view,hX1,List.append_assoc])))
theorem QK(a:Int)(Xs:List Int)(p:Pf)(v y:Int)(hp:p.kind=1->0<=p.index/\p.index<9223372036854775808)(hy:0<=y/\y<100000000000)(hl:Xs.length<=2000000000):
 AC E 162 [.agg p.view,.agg [.i v,.i y],.ptr 0 0,.ptr 1 0] ⟨2,[(0,.var [.i a]),(1,.var [.i Xs.length])]⟩ (.Az []) ⟨2,[(0,.var [.i a]),(1,.var [.i (Xs++Cq a p.kind p.index y).length])]⟩:=by
 rw[List.length_append];unfold Cq;by_cases h0:p.kind=1;case neg=>
  rw[if_neg (fun h=>h0 h.1)];refine M.F Tryz.func162 ?_;(repeat' first|refine M.gw ?_|refine M.gs ?_ ?_<;>intro h|refine M.cs ?_ ?_<;>intro h|fail);all_goals first|exfalso;simp_all;done|exact M.n2 [some 0,some 1] (h8:=(by simp[zj,V.wk,V.Ap,za,Ty.view,Tm.view,List.length_nil]))
 have hp:=hp h0;by_cases h1:p.kind=1/\p.index-y=a
 ·rw[if_pos h1];refine M.F Tryz.func162 ?_;(repeat' first|refine M.gw ?_|refine M.gs ?_ ?_<;>intro h|refine M.cs ?_ ?_<;>intro h|fail);all_goals first|exfalso;simp_all;done|exact M.n2 [some 0,some 1] (h8:=(by simp[zj,V.wk,V.Ap,za,Ty.view,Tm.view,List.length_cons,List.length_nil]))
 ·rw[if_neg h1];refine M.F Tryz.func162 ?_;(repeat' first|refine M.gw ?_|refine M.gs ?_ ?_<;>intro h|refine M.cs ?_ ?_<;>intro h|fail);all_goals first|exfalso;apply h1;simp_all;done|exfalso;simp_all;done|exact M.n2 [some 0,some 1] (h8:=(by simp[zj,V.wk,V.Ap,za,Ty.view,Tm.view,List.length_nil]))
theorem Yj4(a:Int):∀(n:Nat) (p:Pf) (v y:Int) (Xs:List Int),p.full<=n->n<10000000000->(0<=v/\v+2*n<=50000000000)->(0<=y/\y+2*n<=50000000000)->p.nd->p.hx 9223372036854775808->(Xs++p.B3 (Cq a) y).length<=2000000000->
 AC E 84 [.agg p.view,.agg [.i v,.i y],.agg [.nilf,.nilf,.fn (.func 162) [] [.ptr 0 0,.ptr 1 0]]] ⟨2,[(0,.var [.i a]),(1,.var [.i (Xs).length])]⟩ (.Az []) ⟨2,[(0,.var [.i a]),(1,.var [.i ((Xs++p.B3 (Cq a) y)).length])]⟩:=by
 intro n;induction n with
 |zero=>intro p v y Xs hz;have:=p.Aa;omega
 |succ n ih=>
 intro p v y Xs hz hn hv hh hs hhx hxl;obtain⟨i1,i2⟩:=(Pf.A8 _ p).1 hhx;have hka:0<p.args.length->p.kind≠1:=fun h0 e=>by
  obtain⟨⟨nd0,a1,a2⟩,_⟩:=(Pf.Bz p).1 hs;rw[e] at a1;simp[BO] at a1;rw[<-a1] at a2;simp at a2;simp[a2] at h0
 have hxl2:=hxl;rw[p.Bu (Cq a) y,<-List.append_assoc] at hxl2;have hre:=p.Bu (Cq a) y;have hsz':=p.Ag;have hlen:=zd Pf.full Pf.Aa p.args;have hlen1:=zd Fm.full Fm.Aa p.Ac;have hlen2:=zd Tm.full Tm.Aa p.terms;have hru:=vd p.kind;obtain⟨⟨nd,n1,n4⟩,hpf⟩:=(Pf.Bz p).1 hs;have hal:p.args.length<=2:=by
  rw[n4];unfold BO at n1
  repeat(split at n1;· cases n1;decide)
  cases n1
 have hpl:=fun(m:Nat) (hm:m<=1000000)=>yx p.kind v y nd n1 m hm (by omega) (by omega);have e2:CR p.kind=[.bool nd.index,.bool nd.typ,.i nd.terms,.i nd.Ac,.i nd.args,.i (AD p.kind),.i (As p.kind),.i (At p.kind)]:=by unfold CR;rw[n1]
 have b1:0<=As p.kind/\As p.kind<=2:=by unfold As;split<;>(try split)<;>omega
 have b2:0<=At p.kind/\At p.kind<=1:=by unfold At;split<;>omega
 have b3:0<=AD p.kind/\AD p.kind<=1:=by unfold AD;split<;>omega
 rw[n1] at hru;simp only[Option.isSome_some] at hru;rw[e2] at hru;simp only[e2] at hpl;have hlf:=QK a Xs p v y i1 (by omega) (by rw[List.length_append] at hxl;omega);have hno:nd.index=false->(Cq a) p.kind p.index y=[]:=fun hi=>by
  have k1:p.kind≠1:=fun e=>by rw[e] at n1;simp[BO] at n1;rw[<-n1] at hi;cases hi
  have k2:p.kind≠2:=fun e=>by rw[e] at n1;simp[BO] at n1;rw[<-n1] at hi;cases hi
  simp[C5,Cq,Cw,k1,k2]
 obtain⟨X1,hX1⟩:∃X1,X1=Xs++(Cq a) p.kind p.index y:=⟨_,rfl⟩;obtain⟨x3,x4,x5,ix,x2⟩:=nd;simp only at n4 hru hpl hno;cases ix
 ·have hX:X1=Xs:=by rw[hX1,hno rfl,List.append_nil]
  refine M.F Tryz.func84 ?_;(repeat' first|refine M.gw ?_|refine M.c2 (hru) ?_|fail);refine AW.range p.terms.length (fun m=>True)
   (fun m=>([(3,.ptr 2 0),(4,.ptr 3 0),(5,.ptr 4 0),(6,.ptr 5 0),(33,.s .tm p.terms),(34,.i p.terms.length),(35,.i m)],⟨6,[(0,.var [.i a]),(1,.var [.i (X1).length]),(2,.var p.view),(3,.var [.i v,.i y]),(4,.var [.nilf,.nilf,.fn (.func 162) [] [.ptr 0 0,.ptr 1 0]]),(5,.var [.bool false,.bool x2,.i x3,.i x4,.i x5,.i (AD p.kind),.i (As p.kind),.i (At p.kind)])]⟩))
   (by omega) (fun m=>rfl) (fun m=>rfl) U trivial (M.W [some 0,some 1,some 2,some 3,some 4,some 5] (he:=(by(repeat'(first|exact trivial|refine And.intro ?_ ?_|refine⟨_,U,_,U,_,U,?_⟩|exact An.refl _|exact An.of_eq (by simp[Ao.Ax,hX])));done))) ?_ ?_
  ·intro m hm _;(repeat' first|refine M.gw ?_|fail);exact⟨rfl,trivial,(M.W [some 0,some 1,some 2,some 3,some 4,some 5])⟩
  ·intro _;skip;(repeat' first|refine M.gw ?_|fail);refine AW.range p.Ac.length (fun m=>True)
    (fun m=>([(3,.ptr 2 0),(4,.ptr 3 0),(5,.ptr 4 0),(6,.ptr 5 0),(50,.s .fm p.Ac),(51,.i p.Ac.length),(52,.i m)],⟨6,[(0,.var [.i a]),(1,.var [.i (X1).length]),(2,.var p.view),(3,.var [.i v,.i y]),(4,.var [.nilf,.nilf,.fn (.func 162) [] [.ptr 0 0,.ptr 1 0]]),(5,.var [.bool false,.bool x2,.i x3,.i x4,.i x5,.i (AD p.kind),.i (As p.kind),.i (At p.kind)])]⟩))
    (by omega) (fun m=>rfl) (fun m=>rfl) rfl trivial (M.W [some 0,some 1,some 2,some 3,some 4,some 5]) ?_ ?_
   ·intro m hm _;(repeat' first|refine M.gw ?_|fail);exact⟨rfl,trivial,(M.W [some 0,some 1,some 2,some 3,some 4,some 5])⟩
   ·intro _;skip;(repeat' first|refine M.gw ?_|fail);refine AW.range p.args.length (fun m=>True)
     (fun m=>([(3,.ptr 2 0),(4,.ptr 3 0),(5,.ptr 4 0),(6,.ptr 5 0),(70,.s .pf p.args),(71,.i p.args.length),(72,.i m)],⟨6,[(0,.var [.i a]),(1,.var [.i ((X1++((Pf.AM (Cq a) y (At p.kind) p.args).take m).flatten)).length]),(2,.var p.view),(3,.var [.i v,.i y]),(4,.var [.nilf,.nilf,.fn (.func 162) [] [.ptr 0 0,.ptr 1 0]]),(5,.var [.bool false,.bool x2,.i x3,.i x4,.i x5,.i (AD p.kind),.i (As p.kind),.i (At p.kind)])]⟩))
     (by omega) (fun m=>rfl) (fun m=>rfl) U trivial (M.W [some 0,some 1,some 2,some 3,some 4,some 5] (he:=(by(repeat'(first|exact trivial|refine And.intro ?_ ?_|refine⟨_,U,_,U,_,U,?_⟩|exact An.refl _|exact An.of_eq (by simp[Ao.Ax,List.take_zero,List.flatten_nil,List.append_nil])));done))) ?_ ?_
    ·intro m hm _;have hs2:=zc Pf.full (List.getElem_mem hm);have hb:=hpl m (by omega);have hc:=ih p.args[m] (if m+1=p.args.length then v+As p.kind else v) (if m+1=p.args.length then y+At p.kind else y) (X1++((Pf.AM (Cq a) y (At p.kind) p.args).take m).flatten) (by omega) (by omega) (by split<;>omega) (by split<;>omega) (hpf _ (List.getElem_mem hm)) (i2 (hka (by omega)) _ (List.getElem_mem hm)) (by have h9:=(NN X1 (Pf.AM (Cq a) y (At p.kind) p.args) m (by rw[vu];exact hm)).length_le;rw[uo _ _ _ _ _ hm] at h9;rw[hX1] at h9 ⊢;omega);have e3:(X1++((Pf.AM (Cq a) y (At p.kind) p.args).take m).flatten)++p.args[m].B3 (Cq a) (if m+1=p.args.length then y+At p.kind else y)=(X1++((Pf.AM (Cq a) y (At p.kind) p.args).take (m+1)).flatten):=by rw[List.append_assoc,u4 (Cq a) hm]
     rw[e3] at hc;have ev:(if(m:Int)=(x5:Int)-1 then y+At p.kind else y)=(if m+1=p.args.length then y+At p.kind else y):=by
      by_cases hx:m+1=p.args.length
      ·rw[if_pos hx,if_pos (by omega)]
      ·rw[if_neg hx,if_neg (by omega)]
     have ev2:(if(m:Int)=(x5:Int)-1 then v+As p.kind else v)=(if m+1=p.args.length then v+As p.kind else v):=by
      by_cases hx:m+1=p.args.length
      ·rw[if_pos hx,if_pos (by omega)]
      ·rw[if_neg hx,if_neg (by omega)]
     rw[ev,ev2] at hb;(repeat' first|refine M.gw ?_|refine M.c2 (hb) ?_|refine M.cv (hc) [0,1] 0 ?_|fail);exact⟨rfl,trivial,(M.W [some 0,some 1,some 2,some 3,some 4,some 5])⟩
    ·intro _;rw[hre];simp only[Ik];skip
     (exact M.n2 [some 0,some 1] (h6:=(by(repeat'(first|exact trivial|refine And.intro ?_ ?_|refine⟨_,U,_,U,_,U,?_⟩|exact An.refl _|exact An.of_eq (by simp[Ao.Ax,hX1,List.append_assoc])));done)) (h8:=(by simp[zj,V.wk,V.Ap,za,Ty.view,Tm.view,hX1,List.append_assoc])))
 ·refine M.F Tryz.func84 ?_;(repeat' first|refine M.gw ?_|refine M.c2 (hru) ?_|refine M.cv (hlf) [0,1] 0 ?_|fail);refine AW.range p.terms.length (fun m=>True)
   (fun m=>([(3,.ptr 2 0),(4,.ptr 3 0),(5,.ptr 4 0),(6,.ptr 5 0),(33,.s .tm p.terms),(34,.i p.terms.length),(35,.i m)],⟨6,[(0,.var [.i a]),(1,.var [.i (X1).length]),(2,.var p.view),(3,.var [.i v,.i y]),(4,.var [.nilf,.nilf,.fn (.func 162) [] [.ptr 0 0,.ptr 1 0]]),(5,.var [.bool true,.bool x2,.i x3,.i x4,.i x5,.i (AD p.kind),.i (As p.kind),.i (At p.kind)])]⟩))
   (by omega) (fun m=>rfl) (fun m=>rfl) U trivial (M.W [some 0,some 1,some 2,some 3,some 4,some 5] (he:=(by(repeat'(first|exact trivial|refine And.intro ?_ ?_|refine⟨_,U,_,U,_,U,?_⟩|exact An.refl _|exact An.of_eq (by simp[Ao.Ax,hX1])));done))) ?_ ?_
  ·intro m hm _;(repeat' first|refine M.gw ?_|fail);exact⟨rfl,trivial,(M.W [some 0,some 1,some 2,some 3,some 4,some 5])⟩
  ·intro _;skip;(repeat' first|refine M.gw ?_|fail);refine AW.range p.Ac.length (fun m=>True)
    (fun m=>([(3,.ptr 2 0),(4,.ptr 3 0),(5,.ptr 4 0),(6,.ptr 5 0),(50,.s .fm p.Ac),(51,.i p.Ac.length),(52,.i m)],⟨6,[(0,.var [.i a]),(1,.var [.i (X1).length]),(2,.var p.view),(3,.var [.i v,.i y]),(4,.var [.nilf,.nilf,.fn (.func 162) [] [.ptr 0 0,.ptr 1 0]]),(5,.var [.bool true,.bool x2,.i x3,.i x4,.i x5,.i (AD p.kind),.i (As p.kind),.i (At p.kind)])]⟩))
    (by omega) (fun m=>rfl) (fun m=>rfl) rfl trivial (M.W [some 0,some 1,some 2,some 3,some 4,some 5]) ?_ ?_
   ·intro m hm _;(repeat' first|refine M.gw ?_|fail);exact⟨rfl,trivial,(M.W [some 0,some 1,some 2,some 3,some 4,some 5])⟩
   ·intro _;skip;(repeat' first|refine M.gw ?_|fail);refine AW.range p.args.length (fun m=>True)
     (fun m=>([(3,.ptr 2 0),(4,.ptr 3 0),(5,.ptr 4 0),(6,.ptr 5 0),(70,.s .pf p.args),(71,.i p.args.length),(72,.i m)],⟨6,[(0,.var [.i a]),(1,.var [.i ((X1++((Pf.AM (Cq a) y (At p.kind) p.args).take m).flatten)).length]),(2,.var p.view),(3,.var [.i v,.i y]),(4,.var [.nilf,.nilf,.fn (.func 162) [] [.ptr 0 0,.ptr 1 0]]),(5,.var [.bool true,.bool x2,.i x3,.i x4,.i x5,.i (AD p.kind),.i (As p.kind),.i (At p.kind)])]⟩))
     (by omega) (fun m=>rfl) (fun m=>rfl) U trivial (M.W [some 0,some 1,some 2,some 3,some 4,some 5] (he:=(by(repeat'(first|exact trivial|refine And.intro ?_ ?_|refine⟨_,U,_,U,_,U,?_⟩|exact An.refl _|exact An.of_eq (by simp[Ao.Ax,List.take_zero,List.flatten_nil,List.append_nil])));done))) ?_ ?_
    ·intro m hm _;have hs2:=zc Pf.full (List.getElem_mem hm);have hb:=hpl m (by omega);have hc:=ih p.args[m] (if m+1=p.args.length then v+As p.kind else v) (if m+1=p.args.length then y+At p.kind else y) (X1++((Pf.AM (Cq a) y (At p.kind) p.args).take m).flatten) (by omega) (by omega) (by split<;>omega) (by split<;>omega) (hpf _ (List.getElem_mem hm)) (i2 (hka (by omega)) _ (List.getElem_mem hm)) (by have h9:=(NN X1 (Pf.AM (Cq a) y (At p.kind) p.args) m (by rw[vu];exact hm)).length_le;rw[uo _ _ _ _ _ hm] at h9;rw[hX1] at h9 ⊢;omega);have e3:(X1++((Pf.AM (Cq a) y (At p.kind) p.args).take m).flatten)++p.args[m].B3 (Cq a) (if m+1=p.args.length then y+At p.kind else y)=(X1++((Pf.AM (Cq a) y (At p.kind) p.args).take (m+1)).flatten):=by rw[List.append_assoc,u4 (Cq a) hm]
     rw[e3] at hc;have ev:(if(m:Int)=(x5:Int)-1 then y+At p.kind else y)=(if m+1=p.args.length then y+At p.kind else y):=by
      by_cases hx:m+1=p.args.length
      ·rw[if_pos hx,if_pos (by omega)]
      ·rw[if_neg hx,if_neg (by omega)]
     have ev2:(if(m:Int)=(x5:Int)-1 then v+As p.kind else v)=(if m+1=p.args.length then v+As p.kind else v):=by
      by_cases hx:m+1=p.args.length
      ·rw[if_pos hx,if_pos (by omega)]
      ·rw[if_neg hx,if_neg (by omega)]
     rw[ev,ev2] at hb;(repeat' first|refine M.gw ?_|refine M.c2 (hb) ?_|refine M.cv (hc) [0,1] 0 ?_|fail);exact⟨rfl,trivial,(M.W [some 0,some 1,some 2,some 3,some 4,some 5])⟩
    ·intro _;rw[hre];simp only[Ik];skip
     (exact M.n2 [some 0,some 1] (h6:=(by(repeat'(first|exact trivial|refine And.intro ?_ ?_|refine⟨_,U,_,U,_,U,?_⟩|exact An.refl _|exact An.of_eq (by simp[Ao.Ax,hX1,List.append_assoc])));done)) (h8:=(by simp[zj,V.wk,V.Ap,za,Ty.view,Tm.view,hX1,List.append_assoc])))
end Go.Ab
