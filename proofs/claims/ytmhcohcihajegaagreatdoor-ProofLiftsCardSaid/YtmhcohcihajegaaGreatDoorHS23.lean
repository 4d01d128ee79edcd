/- A part of this seat's proofs. No conditions. -/
import Derived.Test.YtmhcohcihajegaaGreatDoorHS21
namespace Go.Ab
open Go Go.Proofs
set_option maxRecDepth 100000
set_option maxHeartbeats 4000000
set_option linter.all false
def InfC(p:Pf):Prop:=∀c:Ck,c.ok->PC E 41 [.agg c.view,.agg p.view] (Znj (yo p c).1 (yo p c).2.1 (yo p c).2.2)
theorem Zo6{p:Pf}(h:p.small=true):(∀t∈p.terms,t.size<=4096)/\(∀f∈p.forms,f.size<=4096)/\∀x∈p.args,x.small=true:=by
 rw[p.small_eq] at h;simp only[Bool.and_eq_true,List.all_eq_true,decide_eq_true_eq] at h;exact⟨h.1.1,h.1.2,h.2⟩
theorem Zvw{p:Pf}{c:Ck}(hc:c.ok)(hr:uy c (Znc p.kind p.index p.ty p.terms p.forms (p.args.map yo) c))
 (hrl:PC E 101 [.agg c.view,.agg p.view] (Zc5 (Znc p.kind p.index p.ty p.terms p.forms (p.args.map yo) c))):
 PC E 41 [.agg c.view,.agg p.view] (Znj (yo p c).1 (yo p c).2.1 (yo p c).2.2):=by
 rw[wz];generalize Znc p.kind p.index p.ty p.terms p.forms (p.args.map yo) c=r at*;obtain⟨f,u,e⟩:=r;unfold Zjj;by_cases he:e=0;case neg=>
  rw[if_pos he];refine M.F Tryz.func41 ?_;(repeat' first|refine M.o1 @hrl ?_|refine M.z1 4 ?_|refine M.cs ?_ ?_<;>intro h|refine M.gk ?_|fail);all_goals first
   |rfl
   |(exfalso;simp at h;exact he h)
   |trace_state
 subst he;rw[if_neg (by simp)];obtain⟨r1,r2,r3,r4⟩:=hr rfl;simp only at r1 r2;have hfl:=Zb2 f r1;have h1:=Zc3 f (by omega);by_cases hf:f.err=0;case neg=>
  rw[if_pos hf];refine M.F Tryz.func41 ?_;(repeat' first|refine M.o2 @hrl @h1 ?_|refine M.z1 6 ?_|refine M.cs ?_ ?_<;>intro h|refine M.gk ?_|fail);all_goals first
   |rfl
   |(exfalso;simp at h;exact hf h)
   |trace_state
 rw[if_neg (by simp[hf])];have h2:=Zun f hf;rw[hf] at h1;cases hcf:Zcu f with
 |true=>
  rw[hcf] at h2;rw[if_pos rfl];refine M.F Tryz.func41 ?_;refine M.w3 @hrl @h1 @h2 ?_;all_goals first
   |rfl
   |trace_state
 |false=>
  rw[hcf] at h2;rw[if_neg (by simp)];refine M.F Tryz.func41 ?_;refine M.w3 @hrl @h1 @h2 ?_;all_goals first
   |rfl
   |trace_state
theorem Ybt{t:Tm}(hs:t.shape=true)(hz:t.size<=4096):t.full<=300000:=by have:=Zf0 t hs;omega
theorem Yec{f:Fm}(hs:f.shape=true)(hz:f.size<=4096):f.full<=300000:=by have:=Zb2 f hs;omega
theorem nhCb(Xs:List Bool)(p:Pf)(v y:Int):AC E 120 [.agg p.view,.agg [.i v,.i y],.ptr 0 0] ⟨1,[(0,.var [.bool (Xs.all id)])]⟩ (.tup []) ⟨1,[(0,.var [.bool ((Xs++nhF p.kind p.index y).all id)])]⟩:=by
 rw[List.all_append];generalize Xs.all id=b;unfold nhF;by_cases h1:p.kind=1
 ·rw[if_pos h1];cases b;all_goals
   refine M.F Tryz.func120 ?_;(repeat' first|refine M.w0 ?_|refine M.gs ?_ ?_<;>intro h|fail);all_goals first|exfalso;simp at h;exact absurd h1 h|exfalso;simp_all;done|exact M.n2 rh1 (h6:=(by(repeat'(first|exact trivial|refine And.intro ?_ ?_|refine⟨_,U,_,U,_,U,?_⟩|exact VLe.refl _|exact VLe.of_eq (by simp[Sto.upd,Bool.true_and,Bool.false_and,h1])));done)) (h8:=(by simp[zn,V.wk,V.wks,za,Ty.view,Tm.view,Bool.true_and,Bool.false_and,h1]))
 ·rw[if_neg h1];cases b;all_goals
   refine M.F Tryz.func120 ?_;(repeat' first|refine M.w0 ?_|refine M.gs ?_ ?_<;>intro h|fail);all_goals first|exfalso;simp at h;exact absurd h h1|exfalso;simp_all;done|exact M.n2 rh1 (h8:=(by simp[zn,V.wk,V.wks,za,Ty.view,Tm.view,Bool.true_and,Bool.false_and,h1]))
theorem Ykj:∀(n:Nat) (p:Pf) (v y:Int) (Xs:List Bool),p.full<=n->n<10000000000->(0<=v/\v+2*n<=50000000000)->(0<=y/\y+2*n<=50000000000)->p.nd->
 AC E 105 [.agg p.view,.agg [.i v,.i y],.agg [.nilf,.nilf,.fn (.func 120) [] [.ptr 0 0]]] ⟨1,[(0,.var [.bool (Xs.all id)])]⟩ (.tup []) ⟨1,[(0,.var [.bool ((Xs++p.lfl (nhF) y).all id)])]⟩:=by
 intro n;induction n with
 |zero=>intro p v y Xs hz;have:=p.full_pos;omega
 |succ n ih=>
 intro p v y Xs hz hn hv hh hs;have hre:=p.lfl_eq (nhF) y;have hsz':=p.full_eq;have hlen:=zg Pf.full Pf.full_pos p.args;have hlen1:=zg Fm.full Fm.full_pos p.forms;have hlen2:=zg Tm.full Tm.full_pos p.terms;have hru:=Za6 p.kind;obtain⟨⟨nd,n1,n4⟩,hpf⟩:=(Pf.nd_iff p).1 hs;have hal:p.args.length<=2:=by
  rw[n4];unfold ndP at n1
  repeat(split at n1;· cases n1;decide)
  cases n1
 have hpl:=fun(m:Nat) (hm:m<=1000000)=>wu p.kind v y nd n1 m hm (by omega) (by omega);have e2:ruC p.kind=[.bool nd.index,.bool nd.typ,.i nd.terms,.i nd.forms,.i nd.args,.i (fvK p.kind),.i (vaK p.kind),.i (hyK p.kind)]:=by unfold ruC;rw[n1]
 have b1:0<=vaK p.kind/\vaK p.kind<=2:=by unfold vaK;split<;>(try split)<;>omega
 have b2:0<=hyK p.kind/\hyK p.kind<=1:=by unfold hyK;split<;>omega
 have b3:0<=fvK p.kind/\fvK p.kind<=1:=by unfold fvK;split<;>omega
 rw[n1] at hru;simp only[Option.isSome_some] at hru;rw[e2] at hru;simp only[e2] at hpl;have hlf:=nhCb Xs p v y;have hno:nd.index=false->(nhF) p.kind p.index y=[]:=fun hi=>by
  have k1:p.kind≠1:=fun e=>by rw[e] at n1;simp[ndP] at n1;rw[<-n1] at hi;cases hi
  have k2:p.kind≠2:=fun e=>by rw[e] at n1;simp[ndP] at n1;rw[<-n1] at hi;cases hi
  simp[nhF,Zb8,hyF,k1,k2]
 obtain⟨X1,hX1⟩:∃X1,X1=Xs++(nhF) p.kind p.index y:=⟨_,rfl⟩;obtain⟨x3,x4,x5,ix,x2⟩:=nd;simp only at n4 hru hpl hno;cases ix
 ·have hX:X1=Xs:=by rw[hX1,hno rfl,List.append_nil]
  refine M.F Tryz.func105 ?_;refine M.w1 @hru ?_;refine M.rt p.terms.length
   (fun m=>([(3,.ptr 1 0),(4,.ptr 2 0),(5,.ptr 3 0),(6,.ptr 4 0),(33,.s .tm p.terms),(34,.i p.terms.length),(35,.i m)],⟨5,[(0,.var [.bool (X1.all id)]),(1,.var p.view),(2,.var [.i v,.i y]),(3,.var [.nilf,.nilf,.fn (.func 120) [] [.ptr 0 0]]),(4,.var [.bool false,.bool x2,.i x3,.i x4,.i x5,.i (fvK p.kind),.i (vaK p.kind),.i (hyK p.kind)])]⟩))
   (M.W rh5 (he:=(by(repeat'(first|exact trivial|refine And.intro ?_ ?_|refine⟨_,U,_,U,_,U,?_⟩|exact VLe.refl _|exact VLe.of_eq (by simp[Sto.upd,hX])));done))) ?_ ?_
  ·intro m hm _;refine M.w0 ?_;exact⟨rfl,trivial,(M.W rh5)⟩
  ·intro _;skip;refine M.w0 ?_;refine M.rt p.forms.length
    (fun m=>([(3,.ptr 1 0),(4,.ptr 2 0),(5,.ptr 3 0),(6,.ptr 4 0),(50,.s .fm p.forms),(51,.i p.forms.length),(52,.i m)],⟨5,[(0,.var [.bool (X1.all id)]),(1,.var p.view),(2,.var [.i v,.i y]),(3,.var [.nilf,.nilf,.fn (.func 120) [] [.ptr 0 0]]),(4,.var [.bool false,.bool x2,.i x3,.i x4,.i x5,.i (fvK p.kind),.i (vaK p.kind),.i (hyK p.kind)])]⟩))
    (M.W rh5) ?_ ?_
   ·intro m hm _;refine M.w0 ?_;exact⟨rfl,trivial,(M.W rh5)⟩
   ·intro _;skip;refine M.w0 ?_;refine M.rt p.args.length
     (fun m=>([(3,.ptr 1 0),(4,.ptr 2 0),(5,.ptr 3 0),(6,.ptr 4 0),(70,.s .pf p.args),(71,.i p.args.length),(72,.i m)],⟨5,[(0,.var [.bool ((X1++((Pf.lfls (nhF) y (hyK p.kind) p.args).take m).flatten).all id)]),(1,.var p.view),(2,.var [.i v,.i y]),(3,.var [.nilf,.nilf,.fn (.func 120) [] [.ptr 0 0]]),(4,.var [.bool false,.bool x2,.i x3,.i x4,.i x5,.i (fvK p.kind),.i (vaK p.kind),.i (hyK p.kind)])]⟩))
     (M.W rh5 (he:=(by(repeat'(first|exact trivial|refine And.intro ?_ ?_|refine⟨_,U,_,U,_,U,?_⟩|exact VLe.refl _|exact VLe.of_eq (by simp[Sto.upd,List.take_zero,List.flatten_nil,List.append_nil])));done))) ?_ ?_
    ·intro m hm _;have hs2:=zc Pf.full (List.getElem_mem hm);have hb:=hpl m (by omega);have hc:=ih p.args[m] (if m+1=p.args.length then v+vaK p.kind else v) (if m+1=p.args.length then y+hyK p.kind else y) (X1++((Pf.lfls (nhF) y (hyK p.kind) p.args).take m).flatten) (by omega) (by omega) (by split<;>omega) (by split<;>omega) (hpf _ (List.getElem_mem hm));have e3:(X1++((Pf.lfls (nhF) y (hyK p.kind) p.args).take m).flatten)++p.args[m].lfl (nhF) (if m+1=p.args.length then y+hyK p.kind else y)=(X1++((Pf.lfls (nhF) y (hyK p.kind) p.args).take (m+1)).flatten):=by rw[List.append_assoc,Zcm (nhF) hm]
     rw[e3] at hc;have ev:(if(m:Int)=(x5:Int)-1 then y+hyK p.kind else y)=(if m+1=p.args.length then y+hyK p.kind else y):=by
      by_cases hx:m+1=p.args.length
      ·rw[if_pos hx,if_pos (by omega)]
      ·rw[if_neg hx,if_neg (by omega)]
     have ev2:(if(m:Int)=(x5:Int)-1 then v+vaK p.kind else v)=(if m+1=p.args.length then v+vaK p.kind else v):=by
      by_cases hx:m+1=p.args.length
      ·rw[if_pos hx,if_pos (by omega)]
      ·rw[if_neg hx,if_neg (by omega)]
     rw[ev,ev2] at hb;(repeat' first|refine M.w1 @hb ?_|refine M.cv (hc) [0] 0 ?_|fail);exact⟨rfl,trivial,(M.W rh5)⟩
    ·intro _;rw[hre];simp only[Zeg];skip
     (exact M.n2 rh1 (h6:=(by(repeat'(first|exact trivial|refine And.intro ?_ ?_|refine⟨_,U,_,U,_,U,?_⟩|exact VLe.of_eq (by simp[Sto.upd,hX1,List.append_assoc])));done)) (h8:=(by simp[zn,V.wk,V.wks,za,Ty.view,Tm.view,hX1,List.append_assoc])))
 ·refine M.F Tryz.func105 ?_;(repeat' first|refine M.w1 @hru ?_|refine M.cv (hlf) [0] 0 ?_|fail);refine M.rt p.terms.length
   (fun m=>([(3,.ptr 1 0),(4,.ptr 2 0),(5,.ptr 3 0),(6,.ptr 4 0),(33,.s .tm p.terms),(34,.i p.terms.length),(35,.i m)],⟨5,[(0,.var [.bool (X1.all id)]),(1,.var p.view),(2,.var [.i v,.i y]),(3,.var [.nilf,.nilf,.fn (.func 120) [] [.ptr 0 0]]),(4,.var [.bool true,.bool x2,.i x3,.i x4,.i x5,.i (fvK p.kind),.i (vaK p.kind),.i (hyK p.kind)])]⟩))
   (M.W rh5 (he:=(by(repeat'(first|exact trivial|refine And.intro ?_ ?_|refine⟨_,U,_,U,_,U,?_⟩|exact VLe.refl _|exact VLe.of_eq (by simp[Sto.upd,hX1])));done))) ?_ ?_
  ·intro m hm _;refine M.w0 ?_;exact⟨rfl,trivial,(M.W rh5)⟩
  ·intro _;skip;refine M.w0 ?_;refine M.rt p.forms.length
    (fun m=>([(3,.ptr 1 0),(4,.ptr 2 0),(5,.ptr 3 0),(6,.ptr 4 0),(50,.s .fm p.forms),(51,.i p.forms.length),(52,.i m)],⟨5,[(0,.var [.bool (X1.all id)]),(1,.var p.view),(2,.var [.i v,.i y]),(3,.var [.nilf,.nilf,.fn (.func 120) [] [.ptr 0 0]]),(4,.var [.bool true,.bool x2,.i x3,.i x4,.i x5,.i (fvK p.kind),.i (vaK p.kind),.i (hyK p.kind)])]⟩))
    (M.W rh5) ?_ ?_
   ·intro m hm _;refine M.w0 ?_;exact⟨rfl,trivial,(M.W rh5)⟩
   ·intro _;skip;refine M.w0 ?_;refine M.rt p.args.length
     (fun m=>([(3,.ptr 1 0),(4,.ptr 2 0),(5,.ptr 3 0),(6,.ptr 4 0),(70,.s .pf p.args),(71,.i p.args.length),(72,.i m)],⟨5,[(0,.var [.bool ((X1++((Pf.lfls (nhF) y (hyK p.kind) p.args).take m).flatten).all id)]),(1,.var p.view),(2,.var [.i v,.i y]),(3,.var [.nilf,.nilf,.fn (.func 120) [] [.ptr 0 0]]),(4,.var [.bool true,.bool x2,.i x3,.i x4,.i x5,.i (fvK p.kind),.i (vaK p.kind),.i (hyK p.kind)])]⟩))
     (M.W rh5 (he:=(by(repeat'(first|exact trivial|refine And.intro ?_ ?_|refine⟨_,U,_,U,_,U,?_⟩|exact VLe.refl _|exact VLe.of_eq (by simp[Sto.upd,List.take_zero,List.flatten_nil,List.append_nil])));done))) ?_ ?_
    ·intro m hm _;have hs2:=zc Pf.full (List.getElem_mem hm);have hb:=hpl m (by omega);have hc:=ih p.args[m] (if m+1=p.args.length then v+vaK p.kind else v) (if m+1=p.args.length then y+hyK p.kind else y) (X1++((Pf.lfls (nhF) y (hyK p.kind) p.args).take m).flatten) (by omega) (by omega) (by split<;>omega) (by split<;>omega) (hpf _ (List.getElem_mem hm));have e3:(X1++((Pf.lfls (nhF) y (hyK p.kind) p.args).take m).flatten)++p.args[m].lfl (nhF) (if m+1=p.args.length then y+hyK p.kind else y)=(X1++((Pf.lfls (nhF) y (hyK p.kind) p.args).take (m+1)).flatten):=by rw[List.append_assoc,Zcm (nhF) hm]
     rw[e3] at hc;have ev:(if(m:Int)=(x5:Int)-1 then y+hyK p.kind else y)=(if m+1=p.args.length then y+hyK p.kind else y):=by
      by_cases hx:m+1=p.args.length
      ·rw[if_pos hx,if_pos (by omega)]
      ·rw[if_neg hx,if_neg (by omega)]
     have ev2:(if(m:Int)=(x5:Int)-1 then v+vaK p.kind else v)=(if m+1=p.args.length then v+vaK p.kind else v):=by
      by_cases hx:m+1=p.args.length
      ·rw[if_pos hx,if_pos (by omega)]
      ·rw[if_neg hx,if_neg (by omega)]
     rw[ev,ev2] at hb;(repeat' first|refine M.w1 @hb ?_|refine M.cv (hc) [0] 0 ?_|fail);exact⟨rfl,trivial,(M.W rh5)⟩
    ·intro _;rw[hre];simp only[Zeg];skip
     (exact M.n2 rh1 (h6:=(by(repeat'(first|exact trivial|refine And.intro ?_ ?_|refine⟨_,U,_,U,_,U,?_⟩|exact VLe.of_eq (by simp[Sto.upd,hX1,List.append_assoc])));done)) (h8:=(by simp[zn,V.wk,V.wks,za,Ty.view,Tm.view,hX1,List.append_assoc])))
theorem chCb(a:Int)(Xs:List Int)(p:Pf)(v y:Int)(hp:p.kind=1->0<=p.index/\p.index<9223372036854775808)(hy:0<=y/\y<100000000000)(hl:Xs.length<=2000000000):
 AC E 125 [.agg p.view,.agg [.i v,.i y],.ptr 0 0,.ptr 1 0] ⟨2,[(0,.var [.i a]),(1,.var [.i Xs.length])]⟩ (.tup []) ⟨2,[(0,.var [.i a]),(1,.var [.i (Xs++Zb8 a p.kind p.index y).length])]⟩:=by
 rw[List.length_append];unfold Zb8;by_cases h0:p.kind=1;case neg=>
  rw[if_neg (fun h=>h0 h.1)];refine M.F Tryz.func125 ?_;(repeat' first|refine M.w0 ?_|refine M.gs ?_ ?_<;>intro h|refine M.cs ?_ ?_<;>intro h|fail);all_goals first|exfalso;simp_all;done|exact M.n2 rh2 (h8:=(by simp[zn,V.wk,V.wks,za,Ty.view,Tm.view,List.length_nil]))
 have hp:=hp h0;by_cases h1:p.kind=1/\p.index-y=a
 ·rw[if_pos h1];refine M.F Tryz.func125 ?_;(repeat' first|refine M.w0 ?_|refine M.gs ?_ ?_<;>intro h|refine M.cs ?_ ?_<;>intro h|fail);all_goals first|exfalso;simp_all;done|exact M.n2 rh2 (h8:=(by simp[zn,V.wk,V.wks,za,Ty.view,Tm.view,List.length_cons,List.length_nil]))
 ·rw[if_neg h1];refine M.F Tryz.func125 ?_;(repeat' first|refine M.w0 ?_|refine M.gs ?_ ?_<;>intro h|refine M.cs ?_ ?_<;>intro h|fail);all_goals first|exfalso;apply h1;simp_all;done|exfalso;simp_all;done|exact M.n2 rh2 (h8:=(by simp[zn,V.wk,V.wks,za,Ty.view,Tm.view,List.length_nil]))
theorem Yja(a:Int):∀(n:Nat) (p:Pf) (v y:Int) (Xs:List Int),p.full<=n->n<10000000000->(0<=v/\v+2*n<=50000000000)->(0<=y/\y+2*n<=50000000000)->p.nd->p.hx 9223372036854775808->(Xs++p.lfl (Zb8 a) y).length<=2000000000->
 AC E 105 [.agg p.view,.agg [.i v,.i y],.agg [.nilf,.nilf,.fn (.func 125) [] [.ptr 0 0,.ptr 1 0]]] ⟨2,[(0,.var [.i a]),(1,.var [.i (Xs).length])]⟩ (.tup []) ⟨2,[(0,.var [.i a]),(1,.var [.i ((Xs++p.lfl (Zb8 a) y)).length])]⟩:=by
 intro n;induction n with
 |zero=>intro p v y Xs hz;have:=p.full_pos;omega
 |succ n ih=>
 intro p v y Xs hz hn hv hh hs hhx hxl;obtain⟨i1,i2⟩:=(Pf.hx_iff _ p).1 hhx;have hka:0<p.args.length->p.kind≠1:=fun h0 e=>by
  obtain⟨⟨nd0,a1,a2⟩,_⟩:=(Pf.nd_iff p).1 hs;rw[e] at a1;simp[ndP] at a1;rw[<-a1] at a2;simp at a2;simp[a2] at h0
 have hxl2:=hxl;rw[p.lfl_eq (Zb8 a) y,<-List.append_assoc] at hxl2;have hre:=p.lfl_eq (Zb8 a) y;have hsz':=p.full_eq;have hlen:=zg Pf.full Pf.full_pos p.args;have hlen1:=zg Fm.full Fm.full_pos p.forms;have hlen2:=zg Tm.full Tm.full_pos p.terms;have hru:=Za6 p.kind;obtain⟨⟨nd,n1,n4⟩,hpf⟩:=(Pf.nd_iff p).1 hs;have hal:p.args.length<=2:=by
  rw[n4];unfold ndP at n1
  repeat(split at n1;· cases n1;decide)
  cases n1
 have hpl:=fun(m:Nat) (hm:m<=1000000)=>wu p.kind v y nd n1 m hm (by omega) (by omega);have e2:ruC p.kind=[.bool nd.index,.bool nd.typ,.i nd.terms,.i nd.forms,.i nd.args,.i (fvK p.kind),.i (vaK p.kind),.i (hyK p.kind)]:=by unfold ruC;rw[n1]
 have b1:0<=vaK p.kind/\vaK p.kind<=2:=by unfold vaK;split<;>(try split)<;>omega
 have b2:0<=hyK p.kind/\hyK p.kind<=1:=by unfold hyK;split<;>omega
 have b3:0<=fvK p.kind/\fvK p.kind<=1:=by unfold fvK;split<;>omega
 rw[n1] at hru;simp only[Option.isSome_some] at hru;rw[e2] at hru;simp only[e2] at hpl;have hlf:=chCb a Xs p v y i1 (by omega) (by rw[List.length_append] at hxl;omega);have hno:nd.index=false->(Zb8 a) p.kind p.index y=[]:=fun hi=>by
  have k1:p.kind≠1:=fun e=>by rw[e] at n1;simp[ndP] at n1;rw[<-n1] at hi;cases hi
  have k2:p.kind≠2:=fun e=>by rw[e] at n1;simp[ndP] at n1;rw[<-n1] at hi;cases hi
  simp[nhF,Zb8,hyF,k1,k2]
 obtain⟨X1,hX1⟩:∃X1,X1=Xs++(Zb8 a) p.kind p.index y:=⟨_,rfl⟩;obtain⟨x3,x4,x5,ix,x2⟩:=nd;simp only at n4 hru hpl hno;cases ix
 ·have hX:X1=Xs:=by rw[hX1,hno rfl,List.append_nil]
  refine M.F Tryz.func105 ?_;refine M.w1 @hru ?_;refine M.rt p.terms.length
   (fun m=>([(3,.ptr 2 0),(4,.ptr 3 0),(5,.ptr 4 0),(6,.ptr 5 0),(33,.s .tm p.terms),(34,.i p.terms.length),(35,.i m)],⟨6,[(0,.var [.i a]),(1,.var [.i (X1).length]),(2,.var p.view),(3,.var [.i v,.i y]),(4,.var [.nilf,.nilf,.fn (.func 125) [] [.ptr 0 0,.ptr 1 0]]),(5,.var [.bool false,.bool x2,.i x3,.i x4,.i x5,.i (fvK p.kind),.i (vaK p.kind),.i (hyK p.kind)])]⟩))
   (M.W rh6 (he:=(by(repeat'(first|exact trivial|refine And.intro ?_ ?_|refine⟨_,U,_,U,_,U,?_⟩|exact VLe.refl _|exact VLe.of_eq (by simp[Sto.upd,hX])));done))) ?_ ?_
  ·intro m hm _;refine M.w0 ?_;exact⟨rfl,trivial,(M.W rh6)⟩
  ·intro _;skip;refine M.w0 ?_;refine M.rt p.forms.length
    (fun m=>([(3,.ptr 2 0),(4,.ptr 3 0),(5,.ptr 4 0),(6,.ptr 5 0),(50,.s .fm p.forms),(51,.i p.forms.length),(52,.i m)],⟨6,[(0,.var [.i a]),(1,.var [.i (X1).length]),(2,.var p.view),(3,.var [.i v,.i y]),(4,.var [.nilf,.nilf,.fn (.func 125) [] [.ptr 0 0,.ptr 1 0]]),(5,.var [.bool false,.bool x2,.i x3,.i x4,.i x5,.i (fvK p.kind),.i (vaK p.kind),.i (hyK p.kind)])]⟩))
    (M.W rh6) ?_ ?_
   ·intro m hm _;refine M.w0 ?_;exact⟨rfl,trivial,(M.W rh6)⟩
   ·intro _;skip;refine M.w0 ?_;refine M.rt p.args.length
     (fun m=>([(3,.ptr 2 0),(4,.ptr 3 0),(5,.ptr 4 0),(6,.ptr 5 0),(70,.s .pf p.args),(71,.i p.args.length),(72,.i m)],⟨6,[(0,.var [.i a]),(1,.var [.i ((X1++((Pf.lfls (Zb8 a) y (hyK p.kind) p.args).take m).flatten)).length]),(2,.var p.view),(3,.var [.i v,.i y]),(4,.var [.nilf,.nilf,.fn (.func 125) [] [.ptr 0 0,.ptr 1 0]]),(5,.var [.bool false,.bool x2,.i x3,.i x4,.i x5,.i (fvK p.kind),.i (vaK p.kind),.i (hyK p.kind)])]⟩))
     (M.W rh6 (he:=(by(repeat'(first|exact trivial|refine And.intro ?_ ?_|refine⟨_,U,_,U,_,U,?_⟩|exact VLe.refl _|exact VLe.of_eq (by simp[Sto.upd,List.take_zero,List.flatten_nil,List.append_nil])));done))) ?_ ?_
    ·intro m hm _;have hs2:=zc Pf.full (List.getElem_mem hm);have hb:=hpl m (by omega);have hc:=ih p.args[m] (if m+1=p.args.length then v+vaK p.kind else v) (if m+1=p.args.length then y+hyK p.kind else y) (X1++((Pf.lfls (Zb8 a) y (hyK p.kind) p.args).take m).flatten) (by omega) (by omega) (by split<;>omega) (by split<;>omega) (hpf _ (List.getElem_mem hm)) (i2 (hka (by omega)) _ (List.getElem_mem hm)) (by have h9:=(Zsp X1 (Pf.lfls (Zb8 a) y (hyK p.kind) p.args) m (by rw[ux];exact hm)).length_le;rw[Zai _ _ _ _ _ hm] at h9;rw[hX1] at h9 ⊢;omega);have e3:(X1++((Pf.lfls (Zb8 a) y (hyK p.kind) p.args).take m).flatten)++p.args[m].lfl (Zb8 a) (if m+1=p.args.length then y+hyK p.kind else y)=(X1++((Pf.lfls (Zb8 a) y (hyK p.kind) p.args).take (m+1)).flatten):=by rw[List.append_assoc,Zcm (Zb8 a) hm]
     rw[e3] at hc;have ev:(if(m:Int)=(x5:Int)-1 then y+hyK p.kind else y)=(if m+1=p.args.length then y+hyK p.kind else y):=by
      by_cases hx:m+1=p.args.length
      ·rw[if_pos hx,if_pos (by omega)]
      ·rw[if_neg hx,if_neg (by omega)]
     have ev2:(if(m:Int)=(x5:Int)-1 then v+vaK p.kind else v)=(if m+1=p.args.length then v+vaK p.kind else v):=by
      by_cases hx:m+1=p.args.length
      ·rw[if_pos hx,if_pos (by omega)]
      ·rw[if_neg hx,if_neg (by omega)]
     rw[ev,ev2] at hb;refine M.w2 @hb @hc ?_;exact⟨rfl,trivial,(M.W rh6)⟩
    ·intro _;rw[hre];simp only[Zeg];skip
     (exact M.n2 rh2 (h6:=(by(repeat'(first|exact trivial|refine And.intro ?_ ?_|refine⟨_,U,_,U,_,U,?_⟩|exact VLe.refl _|exact VLe.of_eq (by simp[Sto.upd,hX1,List.append_assoc])));done)) (h8:=(by simp[zn,V.wk,V.wks,za,Ty.view,Tm.view,hX1,List.append_assoc])))
 ·refine M.F Tryz.func105 ?_;refine M.w2 @hru @hlf ?_;refine M.rt p.terms.length
   (fun m=>([(3,.ptr 2 0),(4,.ptr 3 0),(5,.ptr 4 0),(6,.ptr 5 0),(33,.s .tm p.terms),(34,.i p.terms.length),(35,.i m)],⟨6,[(0,.var [.i a]),(1,.var [.i (X1).length]),(2,.var p.view),(3,.var [.i v,.i y]),(4,.var [.nilf,.nilf,.fn (.func 125) [] [.ptr 0 0,.ptr 1 0]]),(5,.var [.bool true,.bool x2,.i x3,.i x4,.i x5,.i (fvK p.kind),.i (vaK p.kind),.i (hyK p.kind)])]⟩))
   (M.W rh6 (he:=(by(repeat'(first|exact trivial|refine And.intro ?_ ?_|refine⟨_,U,_,U,_,U,?_⟩|exact VLe.refl _|exact VLe.of_eq (by simp[Sto.upd,hX1])));done))) ?_ ?_
  ·intro m hm _;refine M.w0 ?_;exact⟨rfl,trivial,(M.W rh6)⟩
  ·intro _;skip;refine M.w0 ?_;refine M.rt p.forms.length
    (fun m=>([(3,.ptr 2 0),(4,.ptr 3 0),(5,.ptr 4 0),(6,.ptr 5 0),(50,.s .fm p.forms),(51,.i p.forms.length),(52,.i m)],⟨6,[(0,.var [.i a]),(1,.var [.i (X1).length]),(2,.var p.view),(3,.var [.i v,.i y]),(4,.var [.nilf,.nilf,.fn (.func 125) [] [.ptr 0 0,.ptr 1 0]]),(5,.var [.bool true,.bool x2,.i x3,.i x4,.i x5,.i (fvK p.kind),.i (vaK p.kind),.i (hyK p.kind)])]⟩))
    (M.W rh6) ?_ ?_
   ·intro m hm _;refine M.w0 ?_;exact⟨rfl,trivial,(M.W rh6)⟩
   ·intro _;skip;refine M.w0 ?_;refine M.rt p.args.length
     (fun m=>([(3,.ptr 2 0),(4,.ptr 3 0),(5,.ptr 4 0),(6,.ptr 5 0),(70,.s .pf p.args),(71,.i p.args.length),(72,.i m)],⟨6,[(0,.var [.i a]),(1,.var [.i ((X1++((Pf.lfls (Zb8 a) y (hyK p.kind) p.args).take m).flatten)).length]),(2,.var p.view),(3,.var [.i v,.i y]),(4,.var [.nilf,.nilf,.fn (.func 125) [] [.ptr 0 0,.ptr 1 0]]),(5,.var [.bool true,.bool x2,.i x3,.i x4,.i x5,.i (fvK p.kind),.i (vaK p.kind),.i (hyK p.kind)])]⟩))
     (M.W rh6 (he:=(by(repeat'(first|exact trivial|refine And.intro ?_ ?_|refine⟨_,U,_,U,_,U,?_⟩|exact VLe.refl _|exact VLe.of_eq (by simp[Sto.upd,List.take_zero,List.flatten_nil,List.append_nil])));done))) ?_ ?_
    ·intro m hm _;have hs2:=zc Pf.full (List.getElem_mem hm);have hb:=hpl m (by omega);have hc:=ih p.args[m] (if m+1=p.args.length then v+vaK p.kind else v) (if m+1=p.args.length then y+hyK p.kind else y) (X1++((Pf.lfls (Zb8 a) y (hyK p.kind) p.args).take m).flatten) (by omega) (by omega) (by split<;>omega) (by split<;>omega) (hpf _ (List.getElem_mem hm)) (i2 (hka (by omega)) _ (List.getElem_mem hm)) (by have h9:=(Zsp X1 (Pf.lfls (Zb8 a) y (hyK p.kind) p.args) m (by rw[ux];exact hm)).length_le;rw[Zai _ _ _ _ _ hm] at h9;rw[hX1] at h9 ⊢;omega);have e3:(X1++((Pf.lfls (Zb8 a) y (hyK p.kind) p.args).take m).flatten)++p.args[m].lfl (Zb8 a) (if m+1=p.args.length then y+hyK p.kind else y)=(X1++((Pf.lfls (Zb8 a) y (hyK p.kind) p.args).take (m+1)).flatten):=by rw[List.append_assoc,Zcm (Zb8 a) hm]
     rw[e3] at hc;have ev:(if(m:Int)=(x5:Int)-1 then y+hyK p.kind else y)=(if m+1=p.args.length then y+hyK p.kind else y):=by
      by_cases hx:m+1=p.args.length
      ·rw[if_pos hx,if_pos (by omega)]
      ·rw[if_neg hx,if_neg (by omega)]
     have ev2:(if(m:Int)=(x5:Int)-1 then v+vaK p.kind else v)=(if m+1=p.args.length then v+vaK p.kind else v):=by
      by_cases hx:m+1=p.args.length
      ·rw[if_pos hx,if_pos (by omega)]
      ·rw[if_neg hx,if_neg (by omega)]
     rw[ev,ev2] at hb;refine M.w2 @hb @hc ?_;exact⟨rfl,trivial,(M.W rh6)⟩
    ·intro _;rw[hre];simp only[Zeg];skip
     (exact M.n2 rh2 (h6:=(by(repeat'(first|exact trivial|refine And.intro ?_ ?_|refine⟨_,U,_,U,_,U,?_⟩|exact VLe.refl _|exact VLe.of_eq (by simp[Sto.upd,hX1,List.append_assoc])));done)) (h8:=(by simp[zn,V.wk,V.wks,za,Ty.view,Tm.view,hX1,List.append_assoc])))
end Go.Ab
