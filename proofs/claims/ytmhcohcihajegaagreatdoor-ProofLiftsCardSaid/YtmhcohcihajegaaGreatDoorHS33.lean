/- A part of this seat's proofs. No conditions. -/
import Derived.Test.YtmhcohcihajegaaGreatDoorHS26
import Derived.Test.YtmhcohcihajegaaGreatDoorHS28
namespace Go.Ab
open Go Go.Proofs
set_option maxRecDepth 100000
set_option maxHeartbeats 4000000
set_option linter.all false
theorem Zsd(ks:List Int)(n:Int):AC E 71 [.mp 0,.i n] ⟨1,[(0,.map .bl ks (List.replicate ks.length true))]⟩ (.tup []) ⟨1,[(0,.map .bl (if 0<=n then uh n ks else ks) (List.replicate (if 0<=n then uh n ks else ks).length true))]⟩:=by
 by_cases h0:0<=n
 ·rw[if_pos h0];refine M.F Tryz.func71 ?_;(repeat' first|refine M.w0 ?_|refine M.cs ?_ ?_<;>intro h|fail);all_goals first|exfalso;simp at h;omega|exact M.n2 rh1 (h6:=(by(repeat'(first|exact trivial|refine And.intro ?_ ?_|refine⟨_,U,_,_,U,?_,?_⟩|with_reducible exact rfl|(simp[Sto.upd,vx];done)));done)) (h8:=(by simp[zn,V.wk,V.wks,za,Ty.view,Tm.view,vx]))
 ·rw[if_neg h0];refine M.F Tryz.func71 ?_;(repeat' first|refine M.w0 ?_|refine M.cs ?_ ?_<;>intro h|fail);all_goals first|exfalso;simp at h;omega|exact M.n2 rh1 (h8:=(by simp[zn,V.wk,V.wks,za,Ty.view,Tm.view,vx]))
theorem hyCb(Xs:List Int)(p:Pf)(v y:Int)(hp:p.kind=1->0<=p.index/\p.index<9223372036854775808)(hy:0<=y/\y<100000000000):
 AC E 70 [.agg p.view,.agg [.i v,.i y],.ptr 0 0] ⟨2,[(0,.var [.mp 1]),(1,.map .bl (nub [] Xs) (List.replicate (nub [] Xs).length true))]⟩ (.tup []) ⟨2,[(0,.var [.mp 1]),(1,.map .bl (nub [] (Xs++hyF p.kind p.index y)) (List.replicate (nub [] (Xs++hyF p.kind p.index y)).length true))]⟩:=by
 rw[Zbw];generalize nub [] Xs=ks;unfold hyF;by_cases h0:p.kind=1;case neg=>
  rw[if_neg (fun h=>h0 h.1)];refine M.F Tryz.func70 ?_;(repeat' first|refine M.w0 ?_|refine M.cs ?_ ?_<;>intro h|fail);all_goals first|exfalso;simp_all;done|exact M.n2 rh2 (h6:=(by(repeat'(first|exact trivial|refine And.intro ?_ ?_|refine⟨_,U,_,U,_,U,?_⟩|exact VLe.refl _|refine⟨_,U,_,_,U,?_,?_⟩|(simp[Sto.upd,Zbr];done)));done)) (h8:=(by simp[zn,V.wk,V.wks,za,Ty.view,Tm.view,Zbr]))
 have hp:=hp h0;have hs:=Zsd ks (p.index-y);by_cases h1:p.kind=1/\p.index>=y
 ·rw[if_pos h1,Zlu];rw[if_pos (by omega)] at hs;refine M.F Tryz.func70 ?_;(repeat' first|refine M.w0 ?_|refine M.cb (hs) [1] 0 ?_|refine M.cs ?_ ?_<;>intro h|fail);all_goals first|exfalso;simp_all;done|exact M.n2 rh2 (h8:=(by simp[zn,V.wk,V.wks,za,Ty.view,Tm.view,hs]))
 ·rw[if_neg h1,Zbr];rw[if_neg (by omega)] at hs;refine M.F Tryz.func70 ?_;(repeat' first|refine M.w0 ?_|refine M.cb (hs) [1] 0 ?_|refine M.cs ?_ ?_<;>intro h|fail);all_goals first|exfalso;simp_all;done|exact M.n2 rh2 (h8:=(by simp[zn,V.wk,V.wks,za,Ty.view,Tm.view,hs]))
theorem Yko:∀(n:Nat) (p:Pf) (v y:Int) (Xs:List Int),p.full<=n->n<10000000000->(0<=v/\v+2*n<=50000000000)->(0<=y/\y+2*n<=50000000000)->p.nd->p.hx 9223372036854775808->
 AC E 105 [.agg p.view,.agg [.i v,.i y],.agg [.nilf,.nilf,.fn (.func 70) [] [.ptr 0 0]]] ⟨2,[(0,.var [.mp 1]),(1,.map .bl (nub [] (Xs)) (List.replicate (nub [] (Xs)).length true))]⟩ (.tup []) ⟨2,[(0,.var [.mp 1]),(1,.map .bl (nub [] ((Xs++p.lfl (hyF) y))) (List.replicate (nub [] ((Xs++p.lfl (hyF) y))).length true))]⟩:=by
 intro n;induction n with
 |zero=>intro p v y Xs hz;have:=p.full_pos;omega
 |succ n ih=>
 intro p v y Xs hz hn hv hh hs hhx;obtain⟨i1,i2⟩:=(Pf.hx_iff _ p).1 hhx;have hka:0<p.args.length->p.kind≠1:=fun h0 e=>by
  obtain⟨⟨nd0,a1,a2⟩,_⟩:=(Pf.nd_iff p).1 hs;rw[e] at a1;simp[ndP] at a1;rw[<-a1] at a2;simp at a2;simp[a2] at h0
 have hre:=p.lfl_eq (hyF) y;have hsz':=p.full_eq;have hlen:=zg Pf.full Pf.full_pos p.args;have hlen1:=zg Fm.full Fm.full_pos p.forms;have hlen2:=zg Tm.full Tm.full_pos p.terms;have hru:=Za6 p.kind;obtain⟨⟨nd,n1,n4⟩,hpf⟩:=(Pf.nd_iff p).1 hs;have hal:p.args.length<=2:=by
  rw[n4];unfold ndP at n1
  repeat(split at n1;· cases n1;decide)
  cases n1
 have hpl:=fun(m:Nat) (hm:m<=1000000)=>wu p.kind v y nd n1 m hm (by omega) (by omega);have e2:ruC p.kind=[.bool nd.index,.bool nd.typ,.i nd.terms,.i nd.forms,.i nd.args,.i (fvK p.kind),.i (vaK p.kind),.i (hyK p.kind)]:=by unfold ruC;rw[n1]
 have b1:0<=vaK p.kind/\vaK p.kind<=2:=by unfold vaK;split<;>(try split)<;>omega
 have b2:0<=hyK p.kind/\hyK p.kind<=1:=by unfold hyK;split<;>omega
 have b3:0<=fvK p.kind/\fvK p.kind<=1:=by unfold fvK;split<;>omega
 rw[n1] at hru;simp only[Option.isSome_some] at hru;rw[e2] at hru;simp only[e2] at hpl;have hlf:=hyCb Xs p v y i1 (by omega);have hno:nd.index=false->(hyF) p.kind p.index y=[]:=fun hi=>by
  have k1:p.kind≠1:=fun e=>by rw[e] at n1;simp[ndP] at n1;rw[<-n1] at hi;cases hi
  have k2:p.kind≠2:=fun e=>by rw[e] at n1;simp[ndP] at n1;rw[<-n1] at hi;cases hi
  simp[nhF,Zb8,hyF,lmF,k1,k2]
 obtain⟨X1,hX1⟩:∃X1,X1=Xs++(hyF) p.kind p.index y:=⟨_,rfl⟩;obtain⟨x3,x4,x5,ix,x2⟩:=nd;simp only at n4 hru hpl hno;cases ix
 ·have hX:X1=Xs:=by rw[hX1,hno rfl,List.append_nil]
  refine M.F Tryz.func105 ?_;refine M.w1 @hru ?_;refine M.rt p.terms.length
   (fun m=>([(3,.ptr 2 0),(4,.ptr 3 0),(5,.ptr 4 0),(6,.ptr 5 0),(33,.s .tm p.terms),(34,.i p.terms.length),(35,.i m)],⟨6,[(0,.var [.mp 1]),(1,.map .bl (nub [] (X1)) (List.replicate (nub [] (X1)).length true)),(2,.var p.view),(3,.var [.i v,.i y]),(4,.var [.nilf,.nilf,.fn (.func 70) [] [.ptr 0 0]]),(5,.var [.bool false,.bool x2,.i x3,.i x4,.i x5,.i (fvK p.kind),.i (vaK p.kind),.i (hyK p.kind)])]⟩))
   (M.W rh6 (he:=(by(repeat'(first|exact trivial|refine And.intro ?_ ?_|refine⟨_,U,_,U,_,U,?_⟩|exact VLe.refl _|refine⟨_,U,_,_,U,?_,?_⟩|(simp[Sto.upd,hX];done)));done))) ?_ ?_
  ·intro m hm _;refine M.w0 ?_;exact⟨rfl,trivial,(M.W rh6)⟩
  ·intro _;skip;refine M.w0 ?_;refine M.rt p.forms.length
    (fun m=>([(3,.ptr 2 0),(4,.ptr 3 0),(5,.ptr 4 0),(6,.ptr 5 0),(50,.s .fm p.forms),(51,.i p.forms.length),(52,.i m)],⟨6,[(0,.var [.mp 1]),(1,.map .bl (nub [] (X1)) (List.replicate (nub [] (X1)).length true)),(2,.var p.view),(3,.var [.i v,.i y]),(4,.var [.nilf,.nilf,.fn (.func 70) [] [.ptr 0 0]]),(5,.var [.bool false,.bool x2,.i x3,.i x4,.i x5,.i (fvK p.kind),.i (vaK p.kind),.i (hyK p.kind)])]⟩))
    (M.W rh6) ?_ ?_
   ·intro m hm _;refine M.w0 ?_;exact⟨rfl,trivial,(M.W rh6)⟩
   ·intro _;skip;refine M.w0 ?_;refine M.rt p.args.length
     (fun m=>([(3,.ptr 2 0),(4,.ptr 3 0),(5,.ptr 4 0),(6,.ptr 5 0),(70,.s .pf p.args),(71,.i p.args.length),(72,.i m)],⟨6,[(0,.var [.mp 1]),(1,.map .bl (nub [] ((X1++((Pf.lfls (hyF) y (hyK p.kind) p.args).take m).flatten))) (List.replicate (nub [] ((X1++((Pf.lfls (hyF) y (hyK p.kind) p.args).take m).flatten))).length true)),(2,.var p.view),(3,.var [.i v,.i y]),(4,.var [.nilf,.nilf,.fn (.func 70) [] [.ptr 0 0]]),(5,.var [.bool false,.bool x2,.i x3,.i x4,.i x5,.i (fvK p.kind),.i (vaK p.kind),.i (hyK p.kind)])]⟩))
     (M.W rh6 (he:=(by(repeat'(first|exact trivial|refine And.intro ?_ ?_|refine⟨_,U,_,U,_,U,?_⟩|exact VLe.refl _|refine⟨_,U,_,_,U,?_,?_⟩|(simp[Sto.upd,List.take_zero,List.flatten_nil,List.append_nil];done)));done))) ?_ ?_
    ·intro m hm _;have hs2:=zc Pf.full (List.getElem_mem hm);have hb:=hpl m (by omega);have hc:=ih p.args[m] (if m+1=p.args.length then v+vaK p.kind else v) (if m+1=p.args.length then y+hyK p.kind else y) (X1++((Pf.lfls (hyF) y (hyK p.kind) p.args).take m).flatten) (by omega) (by omega) (by split<;>omega) (by split<;>omega) (hpf _ (List.getElem_mem hm)) (i2 (hka (by omega)) _ (List.getElem_mem hm));have e3:(X1++((Pf.lfls (hyF) y (hyK p.kind) p.args).take m).flatten)++p.args[m].lfl (hyF) (if m+1=p.args.length then y+hyK p.kind else y)=(X1++((Pf.lfls (hyF) y (hyK p.kind) p.args).take (m+1)).flatten):=by rw[List.append_assoc,Zcm (hyF) hm]
     rw[e3] at hc;have ev:(if(m:Int)=(x5:Int)-1 then y+hyK p.kind else y)=(if m+1=p.args.length then y+hyK p.kind else y):=by
      by_cases hx:m+1=p.args.length
      ·rw[if_pos hx,if_pos (by omega)]
      ·rw[if_neg hx,if_neg (by omega)]
     have ev2:(if(m:Int)=(x5:Int)-1 then v+vaK p.kind else v)=(if m+1=p.args.length then v+vaK p.kind else v):=by
      by_cases hx:m+1=p.args.length
      ·rw[if_pos hx,if_pos (by omega)]
      ·rw[if_neg hx,if_neg (by omega)]
     rw[ev,ev2] at hb;refine M.w2 @hb @hc ?_;exact⟨rfl,trivial,(M.W rh6)⟩
    ·intro _;rw[hre];simp only[Zeg];skip
     (exact M.n2 rh2 (h6:=(by(repeat'(first|exact trivial|refine And.intro ?_ ?_|refine⟨_,U,_,U,_,U,?_⟩|exact VLe.refl _|refine⟨_,U,_,_,U,?_,?_⟩|(simp[Sto.upd,hX1,List.append_assoc];done)));done)) (h8:=(by simp[zn,V.wk,V.wks,za,Ty.view,Tm.view,hX1,List.append_assoc])))
 ·refine M.F Tryz.func105 ?_;refine M.w2 @hru @hlf ?_;refine M.rt p.terms.length
   (fun m=>([(3,.ptr 2 0),(4,.ptr 3 0),(5,.ptr 4 0),(6,.ptr 5 0),(33,.s .tm p.terms),(34,.i p.terms.length),(35,.i m)],⟨6,[(0,.var [.mp 1]),(1,.map .bl (nub [] (X1)) (List.replicate (nub [] (X1)).length true)),(2,.var p.view),(3,.var [.i v,.i y]),(4,.var [.nilf,.nilf,.fn (.func 70) [] [.ptr 0 0]]),(5,.var [.bool true,.bool x2,.i x3,.i x4,.i x5,.i (fvK p.kind),.i (vaK p.kind),.i (hyK p.kind)])]⟩))
   (M.W rh6 (he:=(by(repeat'(first|exact trivial|refine And.intro ?_ ?_|refine⟨_,U,_,U,_,U,?_⟩|exact VLe.refl _|refine⟨_,U,_,_,U,?_,?_⟩|(simp[Sto.upd,hX1];done)));done))) ?_ ?_
  ·intro m hm _;refine M.w0 ?_;exact⟨rfl,trivial,(M.W rh6)⟩
  ·intro _;skip;refine M.w0 ?_;refine M.rt p.forms.length
    (fun m=>([(3,.ptr 2 0),(4,.ptr 3 0),(5,.ptr 4 0),(6,.ptr 5 0),(50,.s .fm p.forms),(51,.i p.forms.length),(52,.i m)],⟨6,[(0,.var [.mp 1]),(1,.map .bl (nub [] (X1)) (List.replicate (nub [] (X1)).length true)),(2,.var p.view),(3,.var [.i v,.i y]),(4,.var [.nilf,.nilf,.fn (.func 70) [] [.ptr 0 0]]),(5,.var [.bool true,.bool x2,.i x3,.i x4,.i x5,.i (fvK p.kind),.i (vaK p.kind),.i (hyK p.kind)])]⟩))
    (M.W rh6) ?_ ?_
   ·intro m hm _;refine M.w0 ?_;exact⟨rfl,trivial,(M.W rh6)⟩
   ·intro _;skip;refine M.w0 ?_;refine M.rt p.args.length
     (fun m=>([(3,.ptr 2 0),(4,.ptr 3 0),(5,.ptr 4 0),(6,.ptr 5 0),(70,.s .pf p.args),(71,.i p.args.length),(72,.i m)],⟨6,[(0,.var [.mp 1]),(1,.map .bl (nub [] ((X1++((Pf.lfls (hyF) y (hyK p.kind) p.args).take m).flatten))) (List.replicate (nub [] ((X1++((Pf.lfls (hyF) y (hyK p.kind) p.args).take m).flatten))).length true)),(2,.var p.view),(3,.var [.i v,.i y]),(4,.var [.nilf,.nilf,.fn (.func 70) [] [.ptr 0 0]]),(5,.var [.bool true,.bool x2,.i x3,.i x4,.i x5,.i (fvK p.kind),.i (vaK p.kind),.i (hyK p.kind)])]⟩))
     (M.W rh6 (he:=(by(repeat'(first|exact trivial|refine And.intro ?_ ?_|refine⟨_,U,_,U,_,U,?_⟩|exact VLe.refl _|refine⟨_,U,_,_,U,?_,?_⟩|(simp[Sto.upd,List.take_zero,List.flatten_nil,List.append_nil];done)));done))) ?_ ?_
    ·intro m hm _;have hs2:=zc Pf.full (List.getElem_mem hm);have hb:=hpl m (by omega);have hc:=ih p.args[m] (if m+1=p.args.length then v+vaK p.kind else v) (if m+1=p.args.length then y+hyK p.kind else y) (X1++((Pf.lfls (hyF) y (hyK p.kind) p.args).take m).flatten) (by omega) (by omega) (by split<;>omega) (by split<;>omega) (hpf _ (List.getElem_mem hm)) (i2 (hka (by omega)) _ (List.getElem_mem hm));have e3:(X1++((Pf.lfls (hyF) y (hyK p.kind) p.args).take m).flatten)++p.args[m].lfl (hyF) (if m+1=p.args.length then y+hyK p.kind else y)=(X1++((Pf.lfls (hyF) y (hyK p.kind) p.args).take (m+1)).flatten):=by rw[List.append_assoc,Zcm (hyF) hm]
     rw[e3] at hc;have ev:(if(m:Int)=(x5:Int)-1 then y+hyK p.kind else y)=(if m+1=p.args.length then y+hyK p.kind else y):=by
      by_cases hx:m+1=p.args.length
      ·rw[if_pos hx,if_pos (by omega)]
      ·rw[if_neg hx,if_neg (by omega)]
     have ev2:(if(m:Int)=(x5:Int)-1 then v+vaK p.kind else v)=(if m+1=p.args.length then v+vaK p.kind else v):=by
      by_cases hx:m+1=p.args.length
      ·rw[if_pos hx,if_pos (by omega)]
      ·rw[if_neg hx,if_neg (by omega)]
     rw[ev,ev2] at hb;refine M.w2 @hb @hc ?_;exact⟨rfl,trivial,(M.W rh6)⟩
    ·intro _;rw[hre];simp only[Zeg];skip
     (exact M.n2 rh2 (h6:=(by(repeat'(first|exact trivial|refine And.intro ?_ ?_|refine⟨_,U,_,U,_,U,?_⟩|exact VLe.refl _|refine⟨_,U,_,_,U,?_,?_⟩|(simp[Sto.upd,hX1,List.append_assoc];done)));done)) (h8:=(by simp[zn,V.wk,V.wks,za,Ty.view,Tm.view,hX1,List.append_assoc])))
theorem Zik(ks:List Int)(hnd:ks.Nodup)(hwf:∀x∈ks,(Lit.int .i64 x).wf=true)(hmax:ks.length<549755813888):AC E 119 [.mp 0] ⟨1,[(0,.map .bl ks (List.replicate ks.length true))]⟩ (.s .int (yq ks)) ⟨1,[(0,.map .bl ks (List.replicate ks.length true))]⟩:=by
 have hk:AC E 176 [.mp 0] ⟨1,[(0,.map .bl ks (List.replicate ks.length true))]⟩ (.fn (.func 215) [] [.ptr 1 0]) ⟨2,[(1,.var [.mp 0]),(0,.map .bl ks (List.replicate ks.length true))]⟩:=Zu1 (by simp);have hs:AC E 175 [.fn (.func 215) [] [.ptr 0 0]] ⟨2,[(0,.var [.mp 1]),(1,.map .bl ks (List.replicate ks.length true))]⟩ (.s .int (yq ks)) ⟨2,[(0,.var [.mp 1]),(1,.map .bl ks (List.replicate ks.length true))]⟩:=Zwk (c:= .bl) rfl rfl hnd hwf hmax;refine M.F Tryz.func119 ?_;(repeat' first|refine M.w0 ?_|refine M.cb (hk) [0] 1 ?_|refine M.cb (hs) [1,0] 0 ?_|fail)
 (exact M.n2 rh1 (h8:=(by simp[zn,V.wk,V.wks,za,Ty.view,Tm.view,hs])))
theorem Ymc(ks:List Int):AC E 69 [.mp 0] ⟨1,[(0,.map .bl ks (List.replicate ks.length true))]⟩ (.agg [.nilf,.nilf,.fn (.func 70) [] [.ptr 1 0]]) ⟨2,[(0,.map .bl ks (List.replicate ks.length true)),(1,.var [.mp 0])]⟩:=by
 refine M.F Tryz.func69 ?_;refine M.w0 ?_;refine K.rt rh2 rfl rfl rfl rfl rfl ?_ rfl ?_
 ·(repeat'(first|exact trivial|refine And.intro ?_ ?_|refine⟨_,U,_,U,_,U,?_⟩|exact VsLe.refl _|exact VLe.refl _|refine⟨_,U,_,_,U,?_,?_⟩|with_reducible exact rfl|exact Eq.refl true|rfl))
 ·first
   |exact VLe.refl _
   |(refine VLe.of_eq ?_;simp[zn];rfl)
theorem Zqj(p:Pf)(hp:p.full<274877906944)(hx:p.err=0->p.hx 9223372036854775808):PC E 21 [.agg p.view] (.tup [.s .int (if p.err=0 then xp p else []),.i p.err]):=by
 have h1:=Zca p hp;have hcol:PC E 68 [.agg p.view,.fn (.func 69) [] []] (.tup [.s .int (if p.err=0 then xp p else []),.i p.err]):=by
  by_cases he:p.err=0;case neg=>
   rw[if_neg he];refine M.F Tryz.func68 ?_;(repeat' first|refine M.o1 @h1 ?_|refine M.z1 4 ?_|refine M.cs ?_ ?_<;>intro h|refine M.gk ?_|fail);all_goals first
    |rfl
    |(exfalso;simp at h;exact he h)
    |trace_state
  obtain⟨g1,g2,g3,g4,g5,g6⟩:=Zgz he;rw[if_pos he];rw[he] at h1 ⊢;have hv:=Ymc [];have hc:=Yko _ p 0 0 [] (Nat.le_refl _) (by omega) (by omega) (by omega) g4 (hx he);rw[List.nil_append] at hc;obtain⟨hwf,hlen⟩:=Yjh p g1 (by omega) (hx he);have hnd:(nub [] (p.lfl hyF 0)).Nodup:=wc List.nodup_nil;have hs:=Zik (nub [] (p.lfl hyF 0)) hnd hwf hlen;have e:xp p=yq (nub [] (p.lfl hyF 0)):=by unfold xp;rw[Zto]
  rw[e];have e0:nub [] []=[]:=rfl;rw[e0] at hc;simp only[List.length_nil,List.replicate_zero] at hc hv;generalize nub [] (p.lfl hyF 0)=ks at*;refine M.F Tryz.func68 ?_;(repeat' first|refine M.w1 @h1 ?_|refine M.cv (hv) [1] 1 ?_|refine M.cv (hc) [2,1] 0 ?_|refine M.cb (hs) [1] 0 ?_|fail);all_goals first
   |rfl
   |trace_state
 generalize (if p.err=0 then xp p else [])=R at*;refine M.F Tryz.func21 ?_;refine M.w1 @hcol ?_
 rfl
end Go.Ab
