/- A part of this seat's proofs. No conditions. -/
import Derived.Test.YtmhcohcihajegaaGreatDoorHS22
namespace Go.Ab
open Go Go.Proofs
set_option maxRecDepth 100000
set_option maxHeartbeats 4000000
set_option linter.all false
theorem Ykt(Xs:List Bool)(t:Tm)(bl:Int)(ht:t.full<1099511627776):AC E 121 [.agg t.view,.i bl,.ptr 0 0] ⟨1,[(0,.var [.bool (Xs.all id)])]⟩ (.tup []) ⟨1,[(0,.var [.bool ((Xs++[t.near]).all id)])]⟩:=by
 have hc:=Yfb t ht;have e:(Xs++[t.near]).all id=(Xs.all id&&t.near):=by simp[List.all_append]
 rw[e];generalize Xs.all id=b;generalize t.near=c at*;cases b;all_goals
  refine M.F Tryz.func121 ?_;refine M.w1 @hc ?_
  (exact M.n2 rh1 (h8:=(by simp[zn,V.wk,V.wks,za,Ty.view,Tm.view,Bool.true_and,Bool.false_and])))
theorem Yiz(Xs:List Bool)(t:Fm)(bl:Int)(ht:t.full<274877906944):AC E 123 [.agg t.view,.i bl,.ptr 0 0] ⟨1,[(0,.var [.bool (Xs.all id)])]⟩ (.tup []) ⟨1,[(0,.var [.bool ((Xs++[t.near]).all id)])]⟩:=by
 have hc:=Yc4 t ht;have e:(Xs++[t.near]).all id=(Xs.all id&&t.near):=by simp[List.all_append]
 rw[e];generalize Xs.all id=b;generalize t.near=c at*;cases b;all_goals
  refine M.F Tryz.func123 ?_;refine M.w1 @hc ?_
  (exact M.n2 rh1 (h8:=(by simp[zn,V.wk,V.wks,za,Ty.view,Tm.view,Bool.true_and,Bool.false_and])))
theorem Yjw:∀(n:Nat) (p:Pf) (v y:Int) (Xs:List Bool),p.full<=n->n<10000000000->(0<=v/\v+2*n<=50000000000)->(0<=y/\y+2*n<=50000000000)->p.nd->
 AC E 105 [.agg p.view,.agg [.i v,.i y],.agg [.fn (.func 121) [] [.ptr 0 0],.fn (.func 123) [] [.ptr 0 0],.nilf]] ⟨1,[(0,.var [.bool (Xs.all id)])]⟩ (.tup []) ⟨1,[(0,.var [.bool ((Xs++p.tfl (fun(_:Int) (t:Tm)=>t.near) (fun(_:Int) (f:Fm)=>f.near) v).all id)])]⟩:=by
 intro n;induction n with
 |zero=>intro p v y Xs hz;have:=p.full_pos;omega
 |succ n ih=>
 intro p v y Xs hz hn hv hh hs;have hre:=p.tfl_eq (fun(_:Int) (t:Tm)=>t.near) (fun(_:Int) (f:Fm)=>f.near) v;have hsz':=p.full_eq;have hlen:=zg Pf.full Pf.full_pos p.args;have hlen1:=zg Fm.full Fm.full_pos p.forms;have hlen2:=zg Tm.full Tm.full_pos p.terms;have hru:=Za6 p.kind;obtain⟨⟨nd,n1,n4⟩,hpf⟩:=(Pf.nd_iff p).1 hs;have hal:p.args.length<=2:=by
  rw[n4];unfold ndP at n1
  repeat(split at n1;· cases n1;decide)
  cases n1
 have hpl:=fun(m:Nat) (hm:m<=1000000)=>wu p.kind v y nd n1 m hm (by omega) (by omega);have e2:ruC p.kind=[.bool nd.index,.bool nd.typ,.i nd.terms,.i nd.forms,.i nd.args,.i (fvK p.kind),.i (vaK p.kind),.i (hyK p.kind)]:=by unfold ruC;rw[n1]
 have b1:0<=vaK p.kind/\vaK p.kind<=2:=by unfold vaK;split<;>(try split)<;>omega
 have b2:0<=hyK p.kind/\hyK p.kind<=1:=by unfold hyK;split<;>omega
 have b3:0<=fvK p.kind/\fvK p.kind<=1:=by unfold fvK;split<;>omega
 rw[n1] at hru;simp only[Option.isSome_some] at hru;rw[e2] at hru;simp only[e2] at hpl;clear n1 e2;obtain⟨x3,x4,x5,ix,x2⟩:=nd;simp only at n4 hru hpl;cases ix
 ·refine M.F Tryz.func105 ?_;refine M.w1 @hru ?_;refine M.rt p.terms.length
   (fun m=>([(3,.ptr 1 0),(4,.ptr 2 0),(5,.ptr 3 0),(6,.ptr 4 0),(33,.s .tm p.terms),(34,.i p.terms.length),(35,.i m)],⟨5,[(0,.var [.bool ((Xs++(p.terms.take m).map ((fun(_:Int) (t:Tm)=>t.near) v)).all id)]),(1,.var p.view),(2,.var [.i v,.i y]),(3,.var [.fn (.func 121) [] [.ptr 0 0],.fn (.func 123) [] [.ptr 0 0],.nilf]),(4,.var [.bool false,.bool x2,.i x3,.i x4,.i x5,.i (fvK p.kind),.i (vaK p.kind),.i (hyK p.kind)])]⟩))
   (M.W rh5 (he:=(by(repeat'(first|exact trivial|refine And.intro ?_ ?_|refine⟨_,U,_,U,_,U,?_⟩|exact VLe.refl _|exact VLe.of_eq (by simp[Sto.upd,List.take_zero,List.map_nil,List.append_nil])));done))) ?_ ?_
  ·intro m hm _;have hs2:=zc Tm.full (List.getElem_mem hm);have hc:=Ykt (Xs++(p.terms.take m).map ((fun _ t=>t.near) v)) p.terms[m] v (by omega);(repeat' first|refine M.w0 ?_|refine M.cv (hc) [0] 0 ?_|fail);exact⟨rfl,trivial,(M.W rh5 (he:=(by(repeat'(first|exact trivial|refine And.intro ?_ ?_|refine⟨_,U,_,U,_,U,?_⟩|exact VLe.refl _|exact VLe.of_eq (by simp[Sto.upd,ym _ _ _ hm,List.append_assoc])));done)))⟩
  ·intro _;simp only[List.take_length];refine M.w0 ?_;refine M.rt p.forms.length
    (fun m=>([(3,.ptr 1 0),(4,.ptr 2 0),(5,.ptr 3 0),(6,.ptr 4 0),(50,.s .fm p.forms),(51,.i p.forms.length),(52,.i m)],⟨5,[(0,.var [.bool ((Xs++p.terms.map ((fun(_:Int) (t:Tm)=>t.near) v)++(p.forms.take m).map ((fun(_:Int) (f:Fm)=>f.near) (v+fvK p.kind))).all id)]),(1,.var p.view),(2,.var [.i v,.i y]),(3,.var [.fn (.func 121) [] [.ptr 0 0],.fn (.func 123) [] [.ptr 0 0],.nilf]),(4,.var [.bool false,.bool x2,.i x3,.i x4,.i x5,.i (fvK p.kind),.i (vaK p.kind),.i (hyK p.kind)])]⟩))
    (M.W rh5 (he:=(by(repeat'(first|exact trivial|refine And.intro ?_ ?_|refine⟨_,U,_,U,_,U,?_⟩|exact VLe.refl _|exact VLe.of_eq (by simp[Sto.upd,List.take_zero,List.map_nil,List.append_nil])));done))) ?_ ?_
   ·intro m hm _;have hs2:=zc Fm.full (List.getElem_mem hm);have hc:=Yiz (Xs++p.terms.map ((fun _ t=>t.near) v)++(p.forms.take m).map ((fun _ f=>f.near) (v+fvK p.kind))) p.forms[m] (v+fvK p.kind) (by omega);(repeat' first|refine M.w0 ?_|refine M.cv (hc) [0] 0 ?_|fail);exact⟨rfl,trivial,(M.W rh5 (he:=(by(repeat'(first|exact trivial|refine And.intro ?_ ?_|refine⟨_,U,_,U,_,U,?_⟩|exact VLe.refl _|exact VLe.of_eq (by simp[Sto.upd,ym _ _ _ hm,List.append_assoc])));done)))⟩
   ·intro _;simp only[List.take_length];refine M.w0 ?_;refine M.rt p.args.length
     (fun m=>([(3,.ptr 1 0),(4,.ptr 2 0),(5,.ptr 3 0),(6,.ptr 4 0),(70,.s .pf p.args),(71,.i p.args.length),(72,.i m)],⟨5,[(0,.var [.bool ((Xs++p.terms.map ((fun(_:Int) (t:Tm)=>t.near) v)++p.forms.map ((fun(_:Int) (f:Fm)=>f.near) (v+fvK p.kind))++((Pf.tfls (fun(_:Int) (t:Tm)=>t.near) (fun(_:Int) (f:Fm)=>f.near) v (vaK p.kind) p.args).take m).flatten).all id)]),(1,.var p.view),(2,.var [.i v,.i y]),(3,.var [.fn (.func 121) [] [.ptr 0 0],.fn (.func 123) [] [.ptr 0 0],.nilf]),(4,.var [.bool false,.bool x2,.i x3,.i x4,.i x5,.i (fvK p.kind),.i (vaK p.kind),.i (hyK p.kind)])]⟩))
     (M.W rh5 (he:=(by(repeat'(first|exact trivial|refine And.intro ?_ ?_|refine⟨_,U,_,U,_,U,?_⟩|exact VLe.refl _|exact VLe.of_eq (by simp[Sto.upd,List.take_zero,List.flatten_nil,List.append_nil])));done))) ?_ ?_
    ·intro m hm _;have hs2:=zc Pf.full (List.getElem_mem hm);have hb:=hpl m (by omega);have hc:=ih p.args[m] (if m+1=p.args.length then v+vaK p.kind else v) (if m+1=p.args.length then y+hyK p.kind else y) (Xs++p.terms.map ((fun(_:Int) (t:Tm)=>t.near) v)++p.forms.map ((fun(_:Int) (f:Fm)=>f.near) (v+fvK p.kind))++((Pf.tfls (fun(_:Int) (t:Tm)=>t.near) (fun(_:Int) (f:Fm)=>f.near) v (vaK p.kind) p.args).take m).flatten) (by omega) (by omega) (by split<;>omega) (by split<;>omega) (hpf _ (List.getElem_mem hm));have e3:(Xs++p.terms.map ((fun(_:Int) (t:Tm)=>t.near) v)++p.forms.map ((fun(_:Int) (f:Fm)=>f.near) (v+fvK p.kind))++((Pf.tfls (fun(_:Int) (t:Tm)=>t.near) (fun(_:Int) (f:Fm)=>f.near) v (vaK p.kind) p.args).take m).flatten)++p.args[m].tfl (fun(_:Int) (t:Tm)=>t.near) (fun(_:Int) (f:Fm)=>f.near) (if m+1=p.args.length then v+vaK p.kind else v)=(Xs++p.terms.map ((fun(_:Int) (t:Tm)=>t.near) v)++p.forms.map ((fun(_:Int) (f:Fm)=>f.near) (v+fvK p.kind))++((Pf.tfls (fun(_:Int) (t:Tm)=>t.near) (fun(_:Int) (f:Fm)=>f.near) v (vaK p.kind) p.args).take (m+1)).flatten):=by rw[List.append_assoc,Zf9 (fun(_:Int) (t:Tm)=>t.near) (fun(_:Int) (f:Fm)=>f.near) hm]
     rw[e3] at hc;have ev:(if(m:Int)=(x5:Int)-1 then y+hyK p.kind else y)=(if m+1=p.args.length then y+hyK p.kind else y):=by
      by_cases hx:m+1=p.args.length
      ·rw[if_pos hx,if_pos (by omega)]
      ·rw[if_neg hx,if_neg (by omega)]
     have ev2:(if(m:Int)=(x5:Int)-1 then v+vaK p.kind else v)=(if m+1=p.args.length then v+vaK p.kind else v):=by
      by_cases hx:m+1=p.args.length
      ·rw[if_pos hx,if_pos (by omega)]
      ·rw[if_neg hx,if_neg (by omega)]
     rw[ev,ev2] at hb;(repeat' first|refine M.w1 @hb ?_|refine M.cv (hc) [0] 0 ?_|fail);exact⟨rfl,trivial,(M.W rh5)⟩
    ·intro _;rw[hre];simp only[Zh9];skip
     (exact M.n2 rh1 (h6:=(by(repeat'(first|exact trivial|refine And.intro ?_ ?_|refine⟨_,U,_,U,_,U,?_⟩|exact VLe.of_eq (by simp[Sto.upd,List.append_assoc])));done)) (h8:=(by simp[zn,V.wk,V.wks,za,Ty.view,Tm.view,List.append_assoc])))
 ·refine M.F Tryz.func105 ?_;refine M.w1 @hru ?_;refine M.rt p.terms.length
   (fun m=>([(3,.ptr 1 0),(4,.ptr 2 0),(5,.ptr 3 0),(6,.ptr 4 0),(33,.s .tm p.terms),(34,.i p.terms.length),(35,.i m)],⟨5,[(0,.var [.bool ((Xs++(p.terms.take m).map ((fun(_:Int) (t:Tm)=>t.near) v)).all id)]),(1,.var p.view),(2,.var [.i v,.i y]),(3,.var [.fn (.func 121) [] [.ptr 0 0],.fn (.func 123) [] [.ptr 0 0],.nilf]),(4,.var [.bool true,.bool x2,.i x3,.i x4,.i x5,.i (fvK p.kind),.i (vaK p.kind),.i (hyK p.kind)])]⟩))
   (M.W rh5 (he:=(by(repeat'(first|exact trivial|refine And.intro ?_ ?_|refine⟨_,U,_,U,_,U,?_⟩|exact VLe.refl _|exact VLe.of_eq (by simp[Sto.upd,List.take_zero,List.map_nil,List.append_nil])));done))) ?_ ?_
  ·intro m hm _;have hs2:=zc Tm.full (List.getElem_mem hm);have hc:=Ykt (Xs++(p.terms.take m).map ((fun _ t=>t.near) v)) p.terms[m] v (by omega);(repeat' first|refine M.w0 ?_|refine M.cv (hc) [0] 0 ?_|fail);exact⟨rfl,trivial,(M.W rh5 (he:=(by(repeat'(first|exact trivial|refine And.intro ?_ ?_|refine⟨_,U,_,U,_,U,?_⟩|exact VLe.refl _|exact VLe.of_eq (by simp[Sto.upd,ym _ _ _ hm,List.append_assoc])));done)))⟩
  ·intro _;simp only[List.take_length];refine M.w0 ?_;refine M.rt p.forms.length
    (fun m=>([(3,.ptr 1 0),(4,.ptr 2 0),(5,.ptr 3 0),(6,.ptr 4 0),(50,.s .fm p.forms),(51,.i p.forms.length),(52,.i m)],⟨5,[(0,.var [.bool ((Xs++p.terms.map ((fun(_:Int) (t:Tm)=>t.near) v)++(p.forms.take m).map ((fun(_:Int) (f:Fm)=>f.near) (v+fvK p.kind))).all id)]),(1,.var p.view),(2,.var [.i v,.i y]),(3,.var [.fn (.func 121) [] [.ptr 0 0],.fn (.func 123) [] [.ptr 0 0],.nilf]),(4,.var [.bool true,.bool x2,.i x3,.i x4,.i x5,.i (fvK p.kind),.i (vaK p.kind),.i (hyK p.kind)])]⟩))
    (M.W rh5 (he:=(by(repeat'(first|exact trivial|refine And.intro ?_ ?_|refine⟨_,U,_,U,_,U,?_⟩|exact VLe.refl _|exact VLe.of_eq (by simp[Sto.upd,List.take_zero,List.map_nil,List.append_nil])));done))) ?_ ?_
   ·intro m hm _;have hs2:=zc Fm.full (List.getElem_mem hm);have hc:=Yiz (Xs++p.terms.map ((fun _ t=>t.near) v)++(p.forms.take m).map ((fun _ f=>f.near) (v+fvK p.kind))) p.forms[m] (v+fvK p.kind) (by omega);(repeat' first|refine M.w0 ?_|refine M.cv (hc) [0] 0 ?_|fail);exact⟨rfl,trivial,(M.W rh5 (he:=(by(repeat'(first|exact trivial|refine And.intro ?_ ?_|refine⟨_,U,_,U,_,U,?_⟩|exact VLe.refl _|exact VLe.of_eq (by simp[Sto.upd,ym _ _ _ hm,List.append_assoc])));done)))⟩
   ·intro _;simp only[List.take_length];refine M.w0 ?_;refine M.rt p.args.length
     (fun m=>([(3,.ptr 1 0),(4,.ptr 2 0),(5,.ptr 3 0),(6,.ptr 4 0),(70,.s .pf p.args),(71,.i p.args.length),(72,.i m)],⟨5,[(0,.var [.bool ((Xs++p.terms.map ((fun(_:Int) (t:Tm)=>t.near) v)++p.forms.map ((fun(_:Int) (f:Fm)=>f.near) (v+fvK p.kind))++((Pf.tfls (fun(_:Int) (t:Tm)=>t.near) (fun(_:Int) (f:Fm)=>f.near) v (vaK p.kind) p.args).take m).flatten).all id)]),(1,.var p.view),(2,.var [.i v,.i y]),(3,.var [.fn (.func 121) [] [.ptr 0 0],.fn (.func 123) [] [.ptr 0 0],.nilf]),(4,.var [.bool true,.bool x2,.i x3,.i x4,.i x5,.i (fvK p.kind),.i (vaK p.kind),.i (hyK p.kind)])]⟩))
     (M.W rh5 (he:=(by(repeat'(first|exact trivial|refine And.intro ?_ ?_|refine⟨_,U,_,U,_,U,?_⟩|exact VLe.refl _|exact VLe.of_eq (by simp[Sto.upd,List.take_zero,List.flatten_nil,List.append_nil])));done))) ?_ ?_
    ·intro m hm _;have hs2:=zc Pf.full (List.getElem_mem hm);have hb:=hpl m (by omega);have hc:=ih p.args[m] (if m+1=p.args.length then v+vaK p.kind else v) (if m+1=p.args.length then y+hyK p.kind else y) (Xs++p.terms.map ((fun(_:Int) (t:Tm)=>t.near) v)++p.forms.map ((fun(_:Int) (f:Fm)=>f.near) (v+fvK p.kind))++((Pf.tfls (fun(_:Int) (t:Tm)=>t.near) (fun(_:Int) (f:Fm)=>f.near) v (vaK p.kind) p.args).take m).flatten) (by omega) (by omega) (by split<;>omega) (by split<;>omega) (hpf _ (List.getElem_mem hm));have e3:(Xs++p.terms.map ((fun(_:Int) (t:Tm)=>t.near) v)++p.forms.map ((fun(_:Int) (f:Fm)=>f.near) (v+fvK p.kind))++((Pf.tfls (fun(_:Int) (t:Tm)=>t.near) (fun(_:Int) (f:Fm)=>f.near) v (vaK p.kind) p.args).take m).flatten)++p.args[m].tfl (fun(_:Int) (t:Tm)=>t.near) (fun(_:Int) (f:Fm)=>f.near) (if m+1=p.args.length then v+vaK p.kind else v)=(Xs++p.terms.map ((fun(_:Int) (t:Tm)=>t.near) v)++p.forms.map ((fun(_:Int) (f:Fm)=>f.near) (v+fvK p.kind))++((Pf.tfls (fun(_:Int) (t:Tm)=>t.near) (fun(_:Int) (f:Fm)=>f.near) v (vaK p.kind) p.args).take (m+1)).flatten):=by rw[List.append_assoc,Zf9 (fun(_:Int) (t:Tm)=>t.near) (fun(_:Int) (f:Fm)=>f.near) hm]
     rw[e3] at hc;have ev:(if(m:Int)=(x5:Int)-1 then y+hyK p.kind else y)=(if m+1=p.args.length then y+hyK p.kind else y):=by
      by_cases hx:m+1=p.args.length
      ·rw[if_pos hx,if_pos (by omega)]
      ·rw[if_neg hx,if_neg (by omega)]
     have ev2:(if(m:Int)=(x5:Int)-1 then v+vaK p.kind else v)=(if m+1=p.args.length then v+vaK p.kind else v):=by
      by_cases hx:m+1=p.args.length
      ·rw[if_pos hx,if_pos (by omega)]
      ·rw[if_neg hx,if_neg (by omega)]
     rw[ev,ev2] at hb;(repeat' first|refine M.w1 @hb ?_|refine M.cv (hc) [0] 0 ?_|fail);exact⟨rfl,trivial,(M.W rh5)⟩
    ·intro _;rw[hre];simp only[Zh9];skip
     (exact M.n2 rh1 (h6:=(by(repeat'(first|exact trivial|refine And.intro ?_ ?_|refine⟨_,U,_,U,_,U,?_⟩|exact VLe.of_eq (by simp[Sto.upd,List.append_assoc])));done)) (h8:=(by simp[zn,V.wk,V.wks,za,Ty.view,Tm.view,List.append_assoc])))
theorem Zv2(p:Pf)(hp:p.full<5000000000)(hs:p.nd):PC E 75 [.agg p.view] (.bool p.nearP):=by
 have hc:=Yjw _ p 0 0 [] (Nat.le_refl _) (by omega) (by omega) (by omega) hs;rw[List.nil_append] at hc;unfold Pf.nearP;generalize (p.tfl (fun(_:Int) (t:Tm)=>t.near) (fun(_:Int) (f:Fm)=>f.near) 0).all id=b at*;refine M.F Tryz.func75 ?_;(repeat' first|refine M.w0 ?_|refine M.cv (hc) [1] 0 ?_|fail);simp[zn,V.wk,V.wks,za,Ty.view,Tm.view]
theorem Zq2(p:Pf)(hp:p.full<5000000000)(hs:p.nd):PC E 74 [.agg p.view] (.bool p.nearH):=by
 have hc:=Ykj _ p 0 0 [] (Nat.le_refl _) (by omega) (by omega) (by omega) hs;rw[List.nil_append] at hc;unfold Pf.nearH;generalize (p.lfl nhF 0).all id=b at*;refine M.F Tryz.func74 ?_;(repeat' first|refine M.w0 ?_|refine M.cv (hc) [1] 0 ?_|fail);simp[zn,V.wk,V.wks,za,Ty.view,Tm.view]
theorem Ybg(p:Pf)(a:Int)(hp:p.full<1000000000)(hs:p.nd)(hx:p.hx 9223372036854775808):PC E 76 [.agg p.view,.i a] (.i (Znh p a)):=by
 have hl:=Yai a p 0;have hc:=Yja a _ p 0 0 [] (Nat.le_refl _) (by omega) (by omega) (by omega) hs hx (by rw[List.nil_append];omega);rw[List.nil_append] at hc;unfold Znh;generalize (p.lfl (Zb8 a) 0).length=n at*;refine M.F Tryz.func76 ?_;(repeat' first|refine M.w0 ?_|refine M.cv (hc) [1,2] 0 ?_|fail);simp[zn,V.wk,V.wks,za,Ty.view,Tm.view]
theorem Zd8(n m:Int):PC E 73 [.i n,.i m] (.bool (decide (0<=n/\n<=m))):=by
 by_cases h1:0<=n
 ·by_cases h2:n<=m
  ·rw[decide_eq_true ⟨h1,h2⟩];refine M.F Tryz.func73 ?_;(repeat' first|refine M.w0 ?_|refine M.gs ?_ ?_<;>intro h|fail);all_goals first|simp[zn,V.wk];omega|exfalso;simp at*;omega|simp[zn,V.wk,h1,h2];done
  ·rw[decide_eq_false (by omega)];refine M.F Tryz.func73 ?_;(repeat' first|refine M.w0 ?_|refine M.gs ?_ ?_<;>intro h|fail);all_goals first|exfalso;simp at*;omega|simp[zn,V.wk,h1,h2];done|simp[zn,V.wk];omega
 ·rw[decide_eq_false (by omega)];refine M.F Tryz.func73 ?_;(repeat' first|refine M.w0 ?_|refine M.gs ?_ ?_<;>intro h|fail);all_goals first|exfalso;simp at*;omega|simp[zn,V.wk,h1];done|simp[zn,V.wk];omega
theorem Zxl(p:Pf)(hp:p.full<274877906944):PC E 72 [.agg p.view] (.tup [.i p.num,.i p.err]):=by
 have h:=Zoo p hp;refine M.F Tryz.func72 ?_;refine M.w1 @h ?_
 rfl
theorem Zgz{p:Pf}(h:p.err=0):p.shape=true/\p.small=true/\p.size<=16384/\p.nd/\p.full<=1064960/\p.num=p.size:=by
 have h1:=(Pf.err_iff p).1 h;have h2:=Zel p h1.1;exact⟨h1.1,h1.2.1,h1.2.2,Zhd p h1.1,by omega,by unfold Pf.num;rw[if_pos h]⟩
theorem Zx9(p:Pf)(a:Int)(q:Pf)(hp:p.full<274877906944)(hq:q.full<274877906944):PC E 24 [.agg p.view,.i a,.agg q.view] (.tup [.agg (if Za1 p a q=0 then Pf.ph a q 0 0 p else Zvu).view,.i (Za1 p a q)]):=by
 have h1:=Zxl p hp;by_cases he:p.err=0;case neg=>
  rw[Yaw he,if_neg he];refine M.F Tryz.func24 ?_;(repeat' first|refine M.o1 @h1 ?_|refine M.z1 4 ?_|refine M.cs ?_ ?_<;>intro h|refine M.gk ?_|fail);all_goals first
   |rfl
   |(exfalso;simp at h;exact he h)
   |trace_state
 obtain⟨g1,g2,g3,g4,g5,g6⟩:=Zgz he;rw[he,g6] at h1;have h2:=Zd8 a 16384;by_cases ha:0<=a/\a<=16384;case neg=>
  rw[decide_eq_false ha] at h2;rw[Zxy he ha,if_neg (by decide)];refine M.F Tryz.func24 ?_;refine M.w2 @h1 @h2 ?_
  rfl
 rw[decide_eq_true ha] at h2;have h3:=Zxl q hq;by_cases es:q.err=0;case neg=>
  rw[Zyl he ha es,if_neg es];refine M.F Tryz.func24 ?_;(repeat' first|refine M.o3 @h1 @h2 @h3 ?_|refine M.z1 9 ?_|refine M.cs ?_ ?_<;>intro h|refine M.gk ?_|fail);all_goals first
   |rfl
   |(exfalso;simp at h;exact es h)
   |trace_state
 obtain⟨s1,s2,s3,s4,s5,s6⟩:=Zgz es;rw[es,s6] at h3;have h4:=Zq2 p (by omega) g4;have h5:=Zq2 q (by omega) s4;have h6:=Zv2 q (by omega) s4;by_cases hn:p.nearH=false\/q.nearH=false\/q.nearP=false
 ·rw[Yas he ha es hn,if_neg (by decide)];cases hb:p.nearH with
  |false=>
   rw[hb] at h4;refine M.F Tryz.func24 ?_;refine M.w4 @h1 @h2 @h3 @h4 ?_
   rfl
  |true=>
   rw[hb] at h4;cases hb2:q.nearH with
   |false=>
    rw[hb2] at h5;by_cases hpq:p=q
    ·subst hpq;rw[hb] at hb2;cases hb2
    refine M.F Tryz.func24 ?_;refine M.w5 @h1 @h2 @h3 @h4 @h5 ?_
    rfl
   |true=>
    rw[hb2] at h5;rw[(hn.resolve_left (by simp[hb])).resolve_left (by simp[hb2])] at h6;refine M.F Tryz.func24 ?_;refine M.w6 @h1 @h2 @h3 @h4 @h5 @h6 ?_
    rfl
 rw[Zll he ha es hn];have n1:p.nearH=true:=by cases h:p.nearH with|true=>rfl|false=>exact absurd (.inl h) hn
 have n2:q.nearH=true:=by cases h:q.nearH with|true=>rfl|false=>exact absurd (.inr (.inl h)) hn
 have n3:q.nearP=true:=by cases h:q.nearP with|true=>rfl|false=>exact absurd (.inr (.inr h)) hn
 rw[n1] at h4;rw[n2] at h5;rw[n3] at h6;have hx:=Zts p g1 0 n1;have h7:=Ybg p a (by omega) g4 (Zaz hx (by omega));have hl:=Yai a p 0;have hcl:0<=Znh p a/\Znh p a<=1064960:=by unfold Znh;omega
 have sp:=q.size_pos;have m1:0<=Znh p a*((q.size:Int)-1):=Int.mul_nonneg hcl.1 (by omega);have m2:Znh p a*((q.size:Int)-1)<=1064960*16384:=Int.mul_le_mul hcl.2 (by omega) (by omega) (by omega);have hm': -9223372036854775808<=Znh p a*((q.size:Int)-1)/\Znh p a*((q.size:Int)-1)<=9223372036854775807:=by omega
 have h8:=Ykp p a q (by omega) (by omega) s4 (by omega) g4 hx;generalize Pf.ph a q 0 0 p=P at*;by_cases hz:(p.size:Int)+Znh p a*(q.size-1)>16384
 ·rw[if_pos hz,if_neg (by decide)];refine M.F Tryz.func24 ?_;(repeat' first|refine M.o6 @h1 @h2 @h3 @h4 @h5 @h6 ?_|refine M.c2 (h7) ?_|refine M.z1 13 ?_|refine M.cs ?_ ?_<;>intro h|refine M.gk ?_|fail);all_goals first
   |rfl
   |(exfalso;simp at h;omega)
   |trace_state
 ·rw[if_neg hz,if_pos rfl];refine M.F Tryz.func24 ?_;(repeat' first|refine M.w6 @h1 @h2 @h3 @h4 @h5 @h6 ?_|refine M.c2 (h7) ?_|refine M.c2 (h8) ?_|refine M.cs ?_ ?_<;>intro h|fail);all_goals first
   |rfl
   |(exfalso;simp at h;omega)
   |trace_state
end Go.Ab
