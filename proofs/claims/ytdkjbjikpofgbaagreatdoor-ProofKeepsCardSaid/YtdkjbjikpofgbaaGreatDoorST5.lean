/- A part of the proofs of this seat's statements: S131, S116, S117, S120, S121, S126. It has no conditions of its own. -/
import Derived.Test.YtdkjbjikpofgbaaGreatDoorA2
import Derived.Test.YtdkjbjikpofgbaaGreatDoorST4
import Derived.Test.YtdkjbjikpofgbaaGreatDoorDT1
import Derived.Test.YtdkjbjikpofgbaaGreatDoorST3
import Derived.Test.YtdkjbjikpofgbaaGreatDoorS3
import Derived.Test.YtdkjbjikpofgbaaGreatDoorS2
import Derived.Test.YtdkjbjikpofgbaaGreatDoorD1
import Derived.Test.YtdkjbjikpofgbaaGreatDoorST1
import Derived.Test.YtdkjbjikpofgbaaGreatDoorS5
import Derived.Test.YtdkjbjikpofgbaaGreatDoorST2
import Derived.Test.YtdkjbjikpofgbaaGreatDoorS4
namespace Go.Ab
open Go Go.Proofs
set_option maxRecDepth 100000
set_option maxHeartbeats 4000000
set_option linter.all false
theorem Zn6(ks:List Int)(n:Int):AC E 82 [.mp 0,.i n] ⟨1,[(0,.map .bl ks (List.replicate ks.length true))]⟩ (.tup []) ⟨1,[(0,.map .bl (if 0≤n then ve n ks else ks) (List.replicate (if 0≤n then ve n ks else ks).length true))]⟩:=by
 by_cases h0:0≤n
 ·rw [if_pos h0]
  refine M.F Tryz.func82 ?_
  repeat'(first|refine M.gw ?_|refine AW.condS U (fun h=> ?_) (fun h=> ?_)|fail)
  all_goals first
   |(exfalso;simp at h;omega)
   |(exact M.n2 [some 0] (h6:=(by(repeat'(first|exact trivial|refine And.intro ?_ ?_|refine⟨_,U,_,_,U,?_,?_⟩|with_reducible exact rfl|(simp[Sto.upd,uq];done)));done)) (h8:=(by simp[zi,V.wk,V.wks,za,Ty.view,Tm.view,uq])))
   |trace_state
 ·rw [if_neg h0]
  refine M.F Tryz.func82 ?_
  repeat'(first|refine M.gw ?_|refine AW.condS U (fun h=> ?_) (fun h=> ?_)|fail)
  all_goals first
   |(exfalso;simp at h;omega)
   |(exact M.n2 [some 0] (h8:=(by simp[zi,V.wk,V.wks,za,Ty.view,Tm.view,uq])))
   |trace_state
theorem hyCb(Xs:List Int)(p:Pf)(v y:Int)(hp:p.kind=1→0≤p.index∧p.index<9223372036854775808)(hy:0≤y∧y<100000000000):
 AC E 81 [.agg p.view,.agg [.i v,.i y],.ptr 0 0] ⟨2,[(0,.var [.mp 1]),(1,.map .bl (nub [] Xs) (List.replicate (nub [] Xs).length true))]⟩ (.tup []) ⟨2,[(0,.var [.mp 1]),(1,.map .bl (nub [] (Xs++hyF p.kind p.index y)) (List.replicate (nub [] (Xs++hyF p.kind p.index y)).length true))]⟩:=by
 rw[Zeu]
 generalize nub [] Xs=ks
 unfold hyF
 by_cases h0:p.kind=1
 case neg=>
  rw[if_neg (fun h=>h0 h.1)]
  refine M.F Tryz.func81 ?_
  repeat'(first|refine M.gw ?_|refine AW.condS U (fun h=> ?_) (fun h=> ?_)|fail)
  all_goals first
   |(exfalso;simp_all;done)
   |(exact M.n2 [some 0,some 1] (h6:=(by(repeat'(first|exact trivial|refine And.intro ?_ ?_|refine⟨_,U,_,U,_,U,?_⟩|exact VLe.refl _|refine⟨_,U,_,_,U,?_,?_⟩|(simp[Sto.upd,Zbd];done)));done)) (h8:=(by simp[zi,V.wk,V.wks,za,Ty.view,Tm.view,Zbd])))
   |trace_state
 have hp:=hp h0
 have hs:=Zn6 ks (p.index-y)
 by_cases h1:p.kind=1∧p.index≥y
 ·rw [if_pos h1,Zjr]
  rw[if_pos (by omega)] at hs
  refine M.F Tryz.func81 ?_
  repeat'(first|refine M.gw ?_|refine M.cb (hs) [1] 0 ?_|refine AW.condS U (fun h=> ?_) (fun h=> ?_)|fail)
  all_goals first
   |(exfalso;simp_all;done)
   |(exact M.n2 [some 0,some 1] (h8:=(by simp[zi,V.wk,V.wks,za,Ty.view,Tm.view,hs])))
   |trace_state
 ·rw [if_neg h1,Zbd]
  rw[if_neg (by omega)] at hs
  refine M.F Tryz.func81 ?_
  repeat'(first|refine M.gw ?_|refine M.cb (hs) [1] 0 ?_|refine AW.condS U (fun h=> ?_) (fun h=> ?_)|fail)
  all_goals first
   |(exfalso;simp_all;done)
   |(exact M.n2 [some 0,some 1] (h8:=(by simp[zi,V.wk,V.wks,za,Ty.view,Tm.view,hs])))
   |trace_state
theorem lmCb(Xs:List Int)(p:Pf)(v y:Int)(hp:0≤p.index):
 AC E 84 [.agg p.view,.agg [.i v,.i y],.ptr 0 0] ⟨2,[(0,.var [.mp 1]),(1,.map .bl (nub [] Xs) (List.replicate (nub [] Xs).length true))]⟩ (.tup []) ⟨2,[(0,.var [.mp 1]),(1,.map .bl (nub [] (Xs++lmF p.kind p.index y)) (List.replicate (nub [] (Xs++lmF p.kind p.index y)).length true))]⟩:=by
 rw[Zeu]
 generalize nub [] Xs=ks
 unfold lmF
 by_cases h0:p.kind=2
 case neg=>
  rw[if_neg h0]
  refine M.F Tryz.func84 ?_
  repeat'(first|refine M.gw ?_|refine AW.condS U (fun h=> ?_) (fun h=> ?_)|fail)
  all_goals first
   |(exfalso;simp_all;done)
   |(exact M.n2 [some 0,some 1] (h6:=(by(repeat'(first|exact trivial|refine And.intro ?_ ?_|refine⟨_,U,_,U,_,U,?_⟩|exact VLe.refl _|refine⟨_,U,_,_,U,?_,?_⟩|(simp[Sto.upd,Zbd];done)));done)) (h8:=(by simp[zi,V.wk,V.wks,za,Ty.view,Tm.view,Zbd])))
   |trace_state
 have hs:=Zn6 ks p.index
 rw[if_pos h0,Zjr]
 rw[if_pos (by omega)] at hs
 refine M.F Tryz.func84 ?_
 repeat'(first|refine M.gw ?_|refine M.cb (hs) [1] 0 ?_|refine AW.condS U (fun h=> ?_) (fun h=> ?_)|fail)
 all_goals first
  |(exfalso;simp_all;done)
  |(exact M.n2 [some 0,some 1] (h8:=(by simp[zi,V.wk,V.wks,za,Ty.view,Tm.view,hs])))
  |trace_state
theorem Yca:∀(n:Nat) (p:Pf) (v y:Int) (Xs:List Int),p.full≤n→n<10000000000→(0≤v∧v+2*n≤50000000000)→(0≤y∧y+2*n≤50000000000)→p.nd→p.hx 9223372036854775808→
 AC E 58 [.agg p.view,.agg [.i v,.i y],.agg [.nilf,.nilf,.fn (.func 81) [] [.ptr 0 0]]] ⟨2,[(0,.var [.mp 1]),(1,.map .bl (nub [] (Xs)) (List.replicate (nub [] (Xs)).length true))]⟩ (.tup []) ⟨2,[(0,.var [.mp 1]),(1,.map .bl (nub [] ((Xs++p.lfl (hyF) y))) (List.replicate (nub [] ((Xs++p.lfl (hyF) y))).length true))]⟩:=by
 intro n
 induction n with
 |zero=>intro p v y Xs hz;have:=p.full_pos;omega
 |succ n ih=>
 intro p v y Xs hz hn hv hh hs hhx
 obtain⟨i1,i2⟩:=(Pf.hx_iff _ p).1 hhx
 have hka:0<p.args.length→p.kind≠1:=fun h0 e=>by
  obtain⟨⟨nd0,a1,a2⟩,_⟩:=(Pf.nd_iff p).1 hs
  rw[e] at a1
  simp[ndP] at a1
  rw[←a1] at a2
  simp at a2
  simp[a2] at h0
 have hre:=p.lfl_eq (hyF) y
 have hsz':=p.full_eq
 have hlen:=zc Pf.full Pf.full_pos p.args
 have hlen1:=zc Fm.full Fm.full_pos p.forms
 have hlen2:=zc Tm.full Tm.full_pos p.terms
 have hru:=Zck p.kind
 obtain⟨⟨nd,n1,n4⟩,hpf⟩:=(Pf.nd_iff p).1 hs
 have hal:p.args.length≤2:=by
  rw[n4]
  unfold ndP at n1
  repeat(split at n1;· cases n1;decide)
  cases n1
 have hpl:=fun(m:Nat) (hm:m≤1000000)=>vu p.kind v y nd n1 m hm (by omega) (by omega)
 have e2:ruC p.kind=[.bool nd.index,.bool nd.typ,.i nd.terms,.i nd.forms,.i nd.args,.i (fvK p.kind),.i (vaK p.kind),.i (hyK p.kind)]:=by unfold ruC;rw[n1]
 have b1:0≤vaK p.kind∧vaK p.kind≤2:=by unfold vaK;split<;>(try split)<;>omega
 have b2:0≤hyK p.kind∧hyK p.kind≤1:=by unfold hyK;split<;>omega
 have b3:0≤fvK p.kind∧fvK p.kind≤1:=by unfold fvK;split<;>omega
 rw[n1] at hru
 simp only[Option.isSome_some] at hru
 rw[e2] at hru
 simp only[e2] at hpl
 have hlf:=hyCb Xs p v y i1 (by omega)
 have hno:nd.index=false→(hyF) p.kind p.index y=[]:=fun hi=>by
  have k1:p.kind≠1:=fun e=>by rw[e] at n1;simp[ndP] at n1;rw[←n1] at hi;cases hi
  have k2:p.kind≠2:=fun e=>by rw[e] at n1;simp[ndP] at n1;rw[←n1] at hi;cases hi
  simp[nhF,Ye8,hyF,lmF,k1,k2]
 obtain⟨X1,hX1⟩:∃X1,X1=Xs++(hyF) p.kind p.index y:=⟨_,rfl⟩
 obtain⟨x3,x4,x5,ix,x2⟩:=nd
 simp only at n4 hru hpl hno
 cases ix
 ·have hX:X1=Xs:=by rw[hX1,hno rfl,List.append_nil]
  refine M.F Tryz.func58 ?_
  repeat'(first|refine M.gw ?_|refine M.c2 (hru) ?_|fail)
  refine AW.range p.terms.length (fun m=>True)
   (fun m=>([(3,.ptr 2 0),(4,.ptr 3 0),(5,.ptr 4 0),(6,.ptr 5 0),(33,.s .tm p.terms),(34,.i p.terms.length),(35,.i m)],⟨6,[(0,.var [.mp 1]),(1,.map .bl (nub [] (X1)) (List.replicate (nub [] (X1)).length true)),(2,.var p.view),(3,.var [.i v,.i y]),(4,.var [.nilf,.nilf,.fn (.func 81) [] [.ptr 0 0]]),(5,.var [.bool false,.bool x2,.i x3,.i x4,.i x5,.i (fvK p.kind),.i (vaK p.kind),.i (hyK p.kind)])]⟩))
   (by omega) (fun m=>rfl) (fun m=>rfl) U trivial (M.W [some 0,some 1,some 2,some 3,some 4,some 5] (he:=(by(repeat'(first|exact trivial|refine And.intro ?_ ?_|refine⟨_,U,_,U,_,U,?_⟩|exact VLe.refl _|refine⟨_,U,_,_,U,?_,?_⟩|(simp[Sto.upd,hX];done)));done))) ?_ ?_
  ·intro m hm _
   repeat'(first|refine M.gw ?_|fail)
   exact⟨rfl,trivial,(M.W [some 0,some 1,some 2,some 3,some 4,some 5])⟩
  ·intro _
   skip
   repeat'(first|refine M.gw ?_|fail)
   refine AW.range p.forms.length (fun m=>True)
    (fun m=>([(3,.ptr 2 0),(4,.ptr 3 0),(5,.ptr 4 0),(6,.ptr 5 0),(50,.s .fm p.forms),(51,.i p.forms.length),(52,.i m)],⟨6,[(0,.var [.mp 1]),(1,.map .bl (nub [] (X1)) (List.replicate (nub [] (X1)).length true)),(2,.var p.view),(3,.var [.i v,.i y]),(4,.var [.nilf,.nilf,.fn (.func 81) [] [.ptr 0 0]]),(5,.var [.bool false,.bool x2,.i x3,.i x4,.i x5,.i (fvK p.kind),.i (vaK p.kind),.i (hyK p.kind)])]⟩))
    (by omega) (fun m=>rfl) (fun m=>rfl) rfl trivial (M.W [some 0,some 1,some 2,some 3,some 4,some 5]) ?_ ?_
   ·intro m hm _
    repeat'(first|refine M.gw ?_|fail)
    exact⟨rfl,trivial,(M.W [some 0,some 1,some 2,some 3,some 4,some 5])⟩
   ·intro _
    skip
    repeat'(first|refine M.gw ?_|fail)
    refine AW.range p.args.length (fun m=>True)
     (fun m=>([(3,.ptr 2 0),(4,.ptr 3 0),(5,.ptr 4 0),(6,.ptr 5 0),(70,.s .pf p.args),(71,.i p.args.length),(72,.i m)],⟨6,[(0,.var [.mp 1]),(1,.map .bl (nub [] ((X1++((Pf.lfls (hyF) y (hyK p.kind) p.args).take m).flatten))) (List.replicate (nub [] ((X1++((Pf.lfls (hyF) y (hyK p.kind) p.args).take m).flatten))).length true)),(2,.var p.view),(3,.var [.i v,.i y]),(4,.var [.nilf,.nilf,.fn (.func 81) [] [.ptr 0 0]]),(5,.var [.bool false,.bool x2,.i x3,.i x4,.i x5,.i (fvK p.kind),.i (vaK p.kind),.i (hyK p.kind)])]⟩))
     (by omega) (fun m=>rfl) (fun m=>rfl) U trivial (M.W [some 0,some 1,some 2,some 3,some 4,some 5] (he:=(by(repeat'(first|exact trivial|refine And.intro ?_ ?_|refine⟨_,U,_,U,_,U,?_⟩|exact VLe.refl _|refine⟨_,U,_,_,U,?_,?_⟩|(simp[Sto.upd,List.take_zero,List.flatten_nil,List.append_nil];done)));done))) ?_ ?_
    ·intro m hm _
     have hs2:=zb Pf.full (List.getElem_mem hm)
     have hb:=hpl m (by omega)
     have hc:=ih p.args[m] (if m+1=p.args.length then v+vaK p.kind else v) (if m+1=p.args.length then y+hyK p.kind else y) (X1++((Pf.lfls (hyF) y (hyK p.kind) p.args).take m).flatten) (by omega) (by omega) (by split<;>omega) (by split<;>omega) (hpf _ (List.getElem_mem hm)) (i2 (hka (by omega)) _ (List.getElem_mem hm))
     have e3:(X1++((Pf.lfls (hyF) y (hyK p.kind) p.args).take m).flatten)++p.args[m].lfl (hyF) (if m+1=p.args.length then y+hyK p.kind else y)=(X1++((Pf.lfls (hyF) y (hyK p.kind) p.args).take (m+1)).flatten):=by rw[List.append_assoc,Zds (hyF) hm]
     rw[e3] at hc
     have ev:(if(m:Int)=(x5:Int)-1 then y+hyK p.kind else y)=(if m+1=p.args.length then y+hyK p.kind else y):=by
      by_cases hx:m+1=p.args.length
      ·rw [if_pos hx,if_pos (by omega)]
      ·rw [if_neg hx,if_neg (by omega)]
     have ev2:(if(m:Int)=(x5:Int)-1 then v+vaK p.kind else v)=(if m+1=p.args.length then v+vaK p.kind else v):=by
      by_cases hx:m+1=p.args.length
      ·rw [if_pos hx,if_pos (by omega)]
      ·rw [if_neg hx,if_neg (by omega)]
     rw[ev,ev2] at hb
     repeat'(first|refine M.gw ?_|refine M.c2 (hb) ?_|refine M.cv (hc) [0,1] 0 ?_|fail)
     exact⟨rfl,trivial,(M.W [some 0,some 1,some 2,some 3,some 4,some 5])⟩
    ·intro _
     rw[hre]
     simp only[Zfq]
     skip
     (exact M.n2 [some 0,some 1] (h6:=(by(repeat'(first|exact trivial|refine And.intro ?_ ?_|refine⟨_,U,_,U,_,U,?_⟩|exact VLe.refl _|refine⟨_,U,_,_,U,?_,?_⟩|(simp[Sto.upd,hX1,List.append_assoc];done)));done)) (h8:=(by simp[zi,V.wk,V.wks,za,Ty.view,Tm.view,hX1,List.append_assoc])))
 ·refine M.F Tryz.func58 ?_
  repeat'(first|refine M.gw ?_|refine M.c2 (hru) ?_|refine M.cv (hlf) [0,1] 0 ?_|fail)
  refine AW.range p.terms.length (fun m=>True)
   (fun m=>([(3,.ptr 2 0),(4,.ptr 3 0),(5,.ptr 4 0),(6,.ptr 5 0),(33,.s .tm p.terms),(34,.i p.terms.length),(35,.i m)],⟨6,[(0,.var [.mp 1]),(1,.map .bl (nub [] (X1)) (List.replicate (nub [] (X1)).length true)),(2,.var p.view),(3,.var [.i v,.i y]),(4,.var [.nilf,.nilf,.fn (.func 81) [] [.ptr 0 0]]),(5,.var [.bool true,.bool x2,.i x3,.i x4,.i x5,.i (fvK p.kind),.i (vaK p.kind),.i (hyK p.kind)])]⟩))
   (by omega) (fun m=>rfl) (fun m=>rfl) U trivial (M.W [some 0,some 1,some 2,some 3,some 4,some 5] (he:=(by(repeat'(first|exact trivial|refine And.intro ?_ ?_|refine⟨_,U,_,U,_,U,?_⟩|exact VLe.refl _|refine⟨_,U,_,_,U,?_,?_⟩|(simp[Sto.upd,hX1];done)));done))) ?_ ?_
  ·intro m hm _
   repeat'(first|refine M.gw ?_|fail)
   exact⟨rfl,trivial,(M.W [some 0,some 1,some 2,some 3,some 4,some 5])⟩
  ·intro _
   skip
   repeat'(first|refine M.gw ?_|fail)
   refine AW.range p.forms.length (fun m=>True)
    (fun m=>([(3,.ptr 2 0),(4,.ptr 3 0),(5,.ptr 4 0),(6,.ptr 5 0),(50,.s .fm p.forms),(51,.i p.forms.length),(52,.i m)],⟨6,[(0,.var [.mp 1]),(1,.map .bl (nub [] (X1)) (List.replicate (nub [] (X1)).length true)),(2,.var p.view),(3,.var [.i v,.i y]),(4,.var [.nilf,.nilf,.fn (.func 81) [] [.ptr 0 0]]),(5,.var [.bool true,.bool x2,.i x3,.i x4,.i x5,.i (fvK p.kind),.i (vaK p.kind),.i (hyK p.kind)])]⟩))
    (by omega) (fun m=>rfl) (fun m=>rfl) rfl trivial (M.W [some 0,some 1,some 2,some 3,some 4,some 5]) ?_ ?_
   ·intro m hm _
    repeat'(first|refine M.gw ?_|fail)
    exact⟨rfl,trivial,(M.W [some 0,some 1,some 2,some 3,some 4,some 5])⟩
   ·intro _
    skip
    repeat'(first|refine M.gw ?_|fail)
    refine AW.range p.args.length (fun m=>True)
     (fun m=>([(3,.ptr 2 0),(4,.ptr 3 0),(5,.ptr 4 0),(6,.ptr 5 0),(70,.s .pf p.args),(71,.i p.args.length),(72,.i m)],⟨6,[(0,.var [.mp 1]),(1,.map .bl (nub [] ((X1++((Pf.lfls (hyF) y (hyK p.kind) p.args).take m).flatten))) (List.replicate (nub [] ((X1++((Pf.lfls (hyF) y (hyK p.kind) p.args).take m).flatten))).length true)),(2,.var p.view),(3,.var [.i v,.i y]),(4,.var [.nilf,.nilf,.fn (.func 81) [] [.ptr 0 0]]),(5,.var [.bool true,.bool x2,.i x3,.i x4,.i x5,.i (fvK p.kind),.i (vaK p.kind),.i (hyK p.kind)])]⟩))
     (by omega) (fun m=>rfl) (fun m=>rfl) U trivial (M.W [some 0,some 1,some 2,some 3,some 4,some 5] (he:=(by(repeat'(first|exact trivial|refine And.intro ?_ ?_|refine⟨_,U,_,U,_,U,?_⟩|exact VLe.refl _|refine⟨_,U,_,_,U,?_,?_⟩|(simp[Sto.upd,List.take_zero,List.flatten_nil,List.append_nil];done)));done))) ?_ ?_
    ·intro m hm _
     have hs2:=zb Pf.full (List.getElem_mem hm)
     have hb:=hpl m (by omega)
     have hc:=ih p.args[m] (if m+1=p.args.length then v+vaK p.kind else v) (if m+1=p.args.length then y+hyK p.kind else y) (X1++((Pf.lfls (hyF) y (hyK p.kind) p.args).take m).flatten) (by omega) (by omega) (by split<;>omega) (by split<;>omega) (hpf _ (List.getElem_mem hm)) (i2 (hka (by omega)) _ (List.getElem_mem hm))
     have e3:(X1++((Pf.lfls (hyF) y (hyK p.kind) p.args).take m).flatten)++p.args[m].lfl (hyF) (if m+1=p.args.length then y+hyK p.kind else y)=(X1++((Pf.lfls (hyF) y (hyK p.kind) p.args).take (m+1)).flatten):=by rw[List.append_assoc,Zds (hyF) hm]
     rw[e3] at hc
     have ev:(if(m:Int)=(x5:Int)-1 then y+hyK p.kind else y)=(if m+1=p.args.length then y+hyK p.kind else y):=by
      by_cases hx:m+1=p.args.length
      ·rw [if_pos hx,if_pos (by omega)]
      ·rw [if_neg hx,if_neg (by omega)]
     have ev2:(if(m:Int)=(x5:Int)-1 then v+vaK p.kind else v)=(if m+1=p.args.length then v+vaK p.kind else v):=by
      by_cases hx:m+1=p.args.length
      ·rw [if_pos hx,if_pos (by omega)]
      ·rw [if_neg hx,if_neg (by omega)]
     rw[ev,ev2] at hb
     repeat'(first|refine M.gw ?_|refine M.c2 (hb) ?_|refine M.cv (hc) [0,1] 0 ?_|fail)
     exact⟨rfl,trivial,(M.W [some 0,some 1,some 2,some 3,some 4,some 5])⟩
    ·intro _
     rw[hre]
     simp only[Zfq]
     skip
     (exact M.n2 [some 0,some 1] (h6:=(by(repeat'(first|exact trivial|refine And.intro ?_ ?_|refine⟨_,U,_,U,_,U,?_⟩|exact VLe.refl _|refine⟨_,U,_,_,U,?_,?_⟩|(simp[Sto.upd,hX1,List.append_assoc];done)));done)) (h8:=(by simp[zi,V.wk,V.wks,za,Ty.view,Tm.view,hX1,List.append_assoc])))
theorem Ybe:∀(n:Nat) (p:Pf) (v y:Int) (Xs:List Int),p.full≤n→n<10000000000→(0≤v∧v+2*n≤50000000000)→(0≤y∧y+2*n≤50000000000)→p.nd→p.shape=true→
 AC E 58 [.agg p.view,.agg [.i v,.i y],.agg [.nilf,.nilf,.fn (.func 84) [] [.ptr 0 0]]] ⟨2,[(0,.var [.mp 1]),(1,.map .bl (nub [] (Xs)) (List.replicate (nub [] (Xs)).length true))]⟩ (.tup []) ⟨2,[(0,.var [.mp 1]),(1,.map .bl (nub [] ((Xs++p.lfl (lmF) y))) (List.replicate (nub [] ((Xs++p.lfl (lmF) y))).length true))]⟩:=by
 intro n
 induction n with
 |zero=>intro p v y Xs hz;have:=p.full_pos;omega
 |succ n ih=>
 intro p v y Xs hz hn hv hh hs hsh
 have hidx:0≤p.index:=by obtain⟨hh1,_⟩:=yl hsh;obtain⟨_,_,_,_,_,hi,_⟩:=Zwy hh1;exact hi
 have hre:=p.lfl_eq (lmF) y
 have hsz':=p.full_eq
 have hlen:=zc Pf.full Pf.full_pos p.args
 have hlen1:=zc Fm.full Fm.full_pos p.forms
 have hlen2:=zc Tm.full Tm.full_pos p.terms
 have hru:=Zck p.kind
 obtain⟨⟨nd,n1,n4⟩,hpf⟩:=(Pf.nd_iff p).1 hs
 have hal:p.args.length≤2:=by
  rw[n4]
  unfold ndP at n1
  repeat(split at n1;· cases n1;decide)
  cases n1
 have hpl:=fun(m:Nat) (hm:m≤1000000)=>vu p.kind v y nd n1 m hm (by omega) (by omega)
 have e2:ruC p.kind=[.bool nd.index,.bool nd.typ,.i nd.terms,.i nd.forms,.i nd.args,.i (fvK p.kind),.i (vaK p.kind),.i (hyK p.kind)]:=by unfold ruC;rw[n1]
 have b1:0≤vaK p.kind∧vaK p.kind≤2:=by unfold vaK;split<;>(try split)<;>omega
 have b2:0≤hyK p.kind∧hyK p.kind≤1:=by unfold hyK;split<;>omega
 have b3:0≤fvK p.kind∧fvK p.kind≤1:=by unfold fvK;split<;>omega
 rw[n1] at hru
 simp only[Option.isSome_some] at hru
 rw[e2] at hru
 simp only[e2] at hpl
 have hlf:=lmCb Xs p v y hidx
 have hno:nd.index=false→(lmF) p.kind p.index y=[]:=fun hi=>by
  have k1:p.kind≠1:=fun e=>by rw[e] at n1;simp[ndP] at n1;rw[←n1] at hi;cases hi
  have k2:p.kind≠2:=fun e=>by rw[e] at n1;simp[ndP] at n1;rw[←n1] at hi;cases hi
  simp[nhF,Ye8,hyF,lmF,k1,k2]
 obtain⟨X1,hX1⟩:∃X1,X1=Xs++(lmF) p.kind p.index y:=⟨_,rfl⟩
 obtain⟨x3,x4,x5,ix,x2⟩:=nd
 simp only at n4 hru hpl hno
 cases ix
 ·have hX:X1=Xs:=by rw[hX1,hno rfl,List.append_nil]
  refine M.F Tryz.func58 ?_
  repeat'(first|refine M.gw ?_|refine M.c2 (hru) ?_|fail)
  refine AW.range p.terms.length (fun m=>True)
   (fun m=>([(3,.ptr 2 0),(4,.ptr 3 0),(5,.ptr 4 0),(6,.ptr 5 0),(33,.s .tm p.terms),(34,.i p.terms.length),(35,.i m)],⟨6,[(0,.var [.mp 1]),(1,.map .bl (nub [] (X1)) (List.replicate (nub [] (X1)).length true)),(2,.var p.view),(3,.var [.i v,.i y]),(4,.var [.nilf,.nilf,.fn (.func 84) [] [.ptr 0 0]]),(5,.var [.bool false,.bool x2,.i x3,.i x4,.i x5,.i (fvK p.kind),.i (vaK p.kind),.i (hyK p.kind)])]⟩))
   (by omega) (fun m=>rfl) (fun m=>rfl) U trivial (M.W [some 0,some 1,some 2,some 3,some 4,some 5] (he:=(by(repeat'(first|exact trivial|refine And.intro ?_ ?_|refine⟨_,U,_,U,_,U,?_⟩|exact VLe.refl _|refine⟨_,U,_,_,U,?_,?_⟩|(simp[Sto.upd,hX];done)));done))) ?_ ?_
  ·intro m hm _
   repeat'(first|refine M.gw ?_|fail)
   exact⟨rfl,trivial,(M.W [some 0,some 1,some 2,some 3,some 4,some 5])⟩
  ·intro _
   skip
   repeat'(first|refine M.gw ?_|fail)
   refine AW.range p.forms.length (fun m=>True)
    (fun m=>([(3,.ptr 2 0),(4,.ptr 3 0),(5,.ptr 4 0),(6,.ptr 5 0),(50,.s .fm p.forms),(51,.i p.forms.length),(52,.i m)],⟨6,[(0,.var [.mp 1]),(1,.map .bl (nub [] (X1)) (List.replicate (nub [] (X1)).length true)),(2,.var p.view),(3,.var [.i v,.i y]),(4,.var [.nilf,.nilf,.fn (.func 84) [] [.ptr 0 0]]),(5,.var [.bool false,.bool x2,.i x3,.i x4,.i x5,.i (fvK p.kind),.i (vaK p.kind),.i (hyK p.kind)])]⟩))
    (by omega) (fun m=>rfl) (fun m=>rfl) rfl trivial (M.W [some 0,some 1,some 2,some 3,some 4,some 5]) ?_ ?_
   ·intro m hm _
    repeat'(first|refine M.gw ?_|fail)
    exact⟨rfl,trivial,(M.W [some 0,some 1,some 2,some 3,some 4,some 5])⟩
   ·intro _
    skip
    repeat'(first|refine M.gw ?_|fail)
    refine AW.range p.args.length (fun m=>True)
     (fun m=>([(3,.ptr 2 0),(4,.ptr 3 0),(5,.ptr 4 0),(6,.ptr 5 0),(70,.s .pf p.args),(71,.i p.args.length),(72,.i m)],⟨6,[(0,.var [.mp 1]),(1,.map .bl (nub [] ((X1++((Pf.lfls (lmF) y (hyK p.kind) p.args).take m).flatten))) (List.replicate (nub [] ((X1++((Pf.lfls (lmF) y (hyK p.kind) p.args).take m).flatten))).length true)),(2,.var p.view),(3,.var [.i v,.i y]),(4,.var [.nilf,.nilf,.fn (.func 84) [] [.ptr 0 0]]),(5,.var [.bool false,.bool x2,.i x3,.i x4,.i x5,.i (fvK p.kind),.i (vaK p.kind),.i (hyK p.kind)])]⟩))
     (by omega) (fun m=>rfl) (fun m=>rfl) U trivial (M.W [some 0,some 1,some 2,some 3,some 4,some 5] (he:=(by(repeat'(first|exact trivial|refine And.intro ?_ ?_|refine⟨_,U,_,U,_,U,?_⟩|exact VLe.refl _|refine⟨_,U,_,_,U,?_,?_⟩|(simp[Sto.upd,List.take_zero,List.flatten_nil,List.append_nil];done)));done))) ?_ ?_
    ·intro m hm _
     have hs2:=zb Pf.full (List.getElem_mem hm)
     have hb:=hpl m (by omega)
     have hc:=ih p.args[m] (if m+1=p.args.length then v+vaK p.kind else v) (if m+1=p.args.length then y+hyK p.kind else y) (X1++((Pf.lfls (lmF) y (hyK p.kind) p.args).take m).flatten) (by omega) (by omega) (by split<;>omega) (by split<;>omega) (hpf _ (List.getElem_mem hm)) ((yl hsh).2.2.2 _ (List.getElem_mem hm))
     have e3:(X1++((Pf.lfls (lmF) y (hyK p.kind) p.args).take m).flatten)++p.args[m].lfl (lmF) (if m+1=p.args.length then y+hyK p.kind else y)=(X1++((Pf.lfls (lmF) y (hyK p.kind) p.args).take (m+1)).flatten):=by rw[List.append_assoc,Zds (lmF) hm]
     rw[e3] at hc
     have ev:(if(m:Int)=(x5:Int)-1 then y+hyK p.kind else y)=(if m+1=p.args.length then y+hyK p.kind else y):=by
      by_cases hx:m+1=p.args.length
      ·rw [if_pos hx,if_pos (by omega)]
      ·rw [if_neg hx,if_neg (by omega)]
     have ev2:(if(m:Int)=(x5:Int)-1 then v+vaK p.kind else v)=(if m+1=p.args.length then v+vaK p.kind else v):=by
      by_cases hx:m+1=p.args.length
      ·rw [if_pos hx,if_pos (by omega)]
      ·rw [if_neg hx,if_neg (by omega)]
     rw[ev,ev2] at hb
     repeat'(first|refine M.gw ?_|refine M.c2 (hb) ?_|refine M.cv (hc) [0,1] 0 ?_|fail)
     exact⟨rfl,trivial,(M.W [some 0,some 1,some 2,some 3,some 4,some 5])⟩
    ·intro _
     rw[hre]
     simp only[Zfq]
     skip
     (exact M.n2 [some 0,some 1] (h6:=(by(repeat'(first|exact trivial|refine And.intro ?_ ?_|refine⟨_,U,_,U,_,U,?_⟩|exact VLe.refl _|refine⟨_,U,_,_,U,?_,?_⟩|(simp[Sto.upd,hX1,List.append_assoc];done)));done)) (h8:=(by simp[zi,V.wk,V.wks,za,Ty.view,Tm.view,hX1,List.append_assoc])))
 ·refine M.F Tryz.func58 ?_
  repeat'(first|refine M.gw ?_|refine M.c2 (hru) ?_|refine M.cv (hlf) [0,1] 0 ?_|fail)
  refine AW.range p.terms.length (fun m=>True)
   (fun m=>([(3,.ptr 2 0),(4,.ptr 3 0),(5,.ptr 4 0),(6,.ptr 5 0),(33,.s .tm p.terms),(34,.i p.terms.length),(35,.i m)],⟨6,[(0,.var [.mp 1]),(1,.map .bl (nub [] (X1)) (List.replicate (nub [] (X1)).length true)),(2,.var p.view),(3,.var [.i v,.i y]),(4,.var [.nilf,.nilf,.fn (.func 84) [] [.ptr 0 0]]),(5,.var [.bool true,.bool x2,.i x3,.i x4,.i x5,.i (fvK p.kind),.i (vaK p.kind),.i (hyK p.kind)])]⟩))
   (by omega) (fun m=>rfl) (fun m=>rfl) U trivial (M.W [some 0,some 1,some 2,some 3,some 4,some 5] (he:=(by(repeat'(first|exact trivial|refine And.intro ?_ ?_|refine⟨_,U,_,U,_,U,?_⟩|exact VLe.refl _|refine⟨_,U,_,_,U,?_,?_⟩|(simp[Sto.upd,hX1];done)));done))) ?_ ?_
  ·intro m hm _
   repeat'(first|refine M.gw ?_|fail)
   exact⟨rfl,trivial,(M.W [some 0,some 1,some 2,some 3,some 4,some 5])⟩
  ·intro _
   skip
   repeat'(first|refine M.gw ?_|fail)
   refine AW.range p.forms.length (fun m=>True)
    (fun m=>([(3,.ptr 2 0),(4,.ptr 3 0),(5,.ptr 4 0),(6,.ptr 5 0),(50,.s .fm p.forms),(51,.i p.forms.length),(52,.i m)],⟨6,[(0,.var [.mp 1]),(1,.map .bl (nub [] (X1)) (List.replicate (nub [] (X1)).length true)),(2,.var p.view),(3,.var [.i v,.i y]),(4,.var [.nilf,.nilf,.fn (.func 84) [] [.ptr 0 0]]),(5,.var [.bool true,.bool x2,.i x3,.i x4,.i x5,.i (fvK p.kind),.i (vaK p.kind),.i (hyK p.kind)])]⟩))
    (by omega) (fun m=>rfl) (fun m=>rfl) rfl trivial (M.W [some 0,some 1,some 2,some 3,some 4,some 5]) ?_ ?_
   ·intro m hm _
    repeat'(first|refine M.gw ?_|fail)
    exact⟨rfl,trivial,(M.W [some 0,some 1,some 2,some 3,some 4,some 5])⟩
   ·intro _
    skip
    repeat'(first|refine M.gw ?_|fail)
    refine AW.range p.args.length (fun m=>True)
     (fun m=>([(3,.ptr 2 0),(4,.ptr 3 0),(5,.ptr 4 0),(6,.ptr 5 0),(70,.s .pf p.args),(71,.i p.args.length),(72,.i m)],⟨6,[(0,.var [.mp 1]),(1,.map .bl (nub [] ((X1++((Pf.lfls (lmF) y (hyK p.kind) p.args).take m).flatten))) (List.replicate (nub [] ((X1++((Pf.lfls (lmF) y (hyK p.kind) p.args).take m).flatten))).length true)),(2,.var p.view),(3,.var [.i v,.i y]),(4,.var [.nilf,.nilf,.fn (.func 84) [] [.ptr 0 0]]),(5,.var [.bool true,.bool x2,.i x3,.i x4,.i x5,.i (fvK p.kind),.i (vaK p.kind),.i (hyK p.kind)])]⟩))
     (by omega) (fun m=>rfl) (fun m=>rfl) U trivial (M.W [some 0,some 1,some 2,some 3,some 4,some 5] (he:=(by(repeat'(first|exact trivial|refine And.intro ?_ ?_|refine⟨_,U,_,U,_,U,?_⟩|exact VLe.refl _|refine⟨_,U,_,_,U,?_,?_⟩|(simp[Sto.upd,List.take_zero,List.flatten_nil,List.append_nil];done)));done))) ?_ ?_
    ·intro m hm _
     have hs2:=zb Pf.full (List.getElem_mem hm)
     have hb:=hpl m (by omega)
     have hc:=ih p.args[m] (if m+1=p.args.length then v+vaK p.kind else v) (if m+1=p.args.length then y+hyK p.kind else y) (X1++((Pf.lfls (lmF) y (hyK p.kind) p.args).take m).flatten) (by omega) (by omega) (by split<;>omega) (by split<;>omega) (hpf _ (List.getElem_mem hm)) ((yl hsh).2.2.2 _ (List.getElem_mem hm))
     have e3:(X1++((Pf.lfls (lmF) y (hyK p.kind) p.args).take m).flatten)++p.args[m].lfl (lmF) (if m+1=p.args.length then y+hyK p.kind else y)=(X1++((Pf.lfls (lmF) y (hyK p.kind) p.args).take (m+1)).flatten):=by rw[List.append_assoc,Zds (lmF) hm]
     rw[e3] at hc
     have ev:(if(m:Int)=(x5:Int)-1 then y+hyK p.kind else y)=(if m+1=p.args.length then y+hyK p.kind else y):=by
      by_cases hx:m+1=p.args.length
      ·rw [if_pos hx,if_pos (by omega)]
      ·rw [if_neg hx,if_neg (by omega)]
     have ev2:(if(m:Int)=(x5:Int)-1 then v+vaK p.kind else v)=(if m+1=p.args.length then v+vaK p.kind else v):=by
      by_cases hx:m+1=p.args.length
      ·rw [if_pos hx,if_pos (by omega)]
      ·rw [if_neg hx,if_neg (by omega)]
     rw[ev,ev2] at hb
     repeat'(first|refine M.gw ?_|refine M.c2 (hb) ?_|refine M.cv (hc) [0,1] 0 ?_|fail)
     exact⟨rfl,trivial,(M.W [some 0,some 1,some 2,some 3,some 4,some 5])⟩
    ·intro _
     rw[hre]
     simp only[Zfq]
     skip
     (exact M.n2 [some 0,some 1] (h6:=(by(repeat'(first|exact trivial|refine And.intro ?_ ?_|refine⟨_,U,_,U,_,U,?_⟩|exact VLe.refl _|refine⟨_,U,_,_,U,?_,?_⟩|(simp[Sto.upd,hX1,List.append_assoc];done)));done)) (h8:=(by simp[zi,V.wk,V.wks,za,Ty.view,Tm.view,hX1,List.append_assoc])))
theorem Zf1(ks:List Int)(hnd:ks.Nodup)(hwf:∀x∈ks,(Lit.int .i64 x).wf=true)(hmax:ks.length<549755813888):AC E 137 [.mp 0] ⟨1,[(0,.map .bl ks (List.replicate ks.length true))]⟩ (.s .int (yj ks)) ⟨1,[(0,.map .bl ks (List.replicate ks.length true))]⟩:=by
 have hk:AC E 186 [.mp 0] ⟨1,[(0,.map .bl ks (List.replicate ks.length true))]⟩ (.fn (.func 222) [] [.ptr 1 0]) ⟨2,[(1,.var [.mp 0]),(0,.map .bl ks (List.replicate ks.length true))]⟩:=Zo7 (by simp)
 have hs:AC E 185 [.fn (.func 222) [] [.ptr 0 0]] ⟨2,[(0,.var [.mp 1]),(1,.map .bl ks (List.replicate ks.length true))]⟩ (.s .int (yj ks)) ⟨2,[(0,.var [.mp 1]),(1,.map .bl ks (List.replicate ks.length true))]⟩:=Zt8 (c:= .bl) rfl rfl hnd hwf hmax
 refine M.F Tryz.func137 ?_
 repeat'(first|refine M.gw ?_|refine M.cb (hk) [0] 1 ?_|refine M.cb (hs) [1,0] 0 ?_|fail)
 (exact M.n2 [some 0] (h8:=(by simp[zi,V.wk,V.wks,za,Ty.view,Tm.view,hs])))
theorem Yep(ks:List Int):AC E 80 [.mp 0] ⟨1,[(0,.map .bl ks (List.replicate ks.length true))]⟩ (.agg [.nilf,.nilf,.fn (.func 81) [] [.ptr 1 0]]) ⟨2,[(0,.map .bl ks (List.replicate ks.length true)),(1,.var [.mp 0])]⟩:=by
 refine M.F Tryz.func80 ?_
 repeat'(first|refine M.gw ?_|fail)
 refine K.rt [some 0,some 1] rfl rfl rfl rfl rfl ?_ rfl ?_
 ·(repeat'(first|exact trivial|refine And.intro ?_ ?_|refine⟨_,U,_,U,_,U,?_⟩|exact VsLe.refl _|exact VLe.refl _|refine⟨_,U,_,_,U,?_,?_⟩|with_reducible exact rfl|exact Eq.refl true|rfl))
 ·first
   |exact VLe.refl _
   |(refine VLe.of_eq ?_;simp[zi];rfl)
theorem Yeb(ks:List Int):AC E 83 [.mp 0] ⟨1,[(0,.map .bl ks (List.replicate ks.length true))]⟩ (.agg [.nilf,.nilf,.fn (.func 84) [] [.ptr 1 0]]) ⟨2,[(0,.map .bl ks (List.replicate ks.length true)),(1,.var [.mp 0])]⟩:=by
 refine M.F Tryz.func83 ?_
 repeat'(first|refine M.gw ?_|fail)
 refine K.rt [some 0,some 1] rfl rfl rfl rfl rfl ?_ rfl ?_
 ·(repeat'(first|exact trivial|refine And.intro ?_ ?_|refine⟨_,U,_,U,_,U,?_⟩|exact VsLe.refl _|exact VLe.refl _|refine⟨_,U,_,_,U,?_,?_⟩|with_reducible exact rfl|exact Eq.refl true|rfl))
 ·first
   |exact VLe.refl _
   |(refine VLe.of_eq ?_;simp[zi];rfl)
theorem Zir(p:Pf)(hp:p.full<274877906944)(hx:p.err=0→p.hx 9223372036854775808):PC E 16 [.agg p.view] (.tup [.s .int (if p.err=0 then Zdp p else []),.i p.err]):=by
 have h1:=Ze0 p hp
 have hcol:PC E 79 [.agg p.view,.fn (.func 80) [] []] (.tup [.s .int (if p.err=0 then Zdp p else []),.i p.err]):=by
  by_cases he:p.err=0
  case neg=>
   rw[if_neg he]
   refine M.F Tryz.func79 ?_
   repeat'(first|refine M.go ?_|refine M.c2 (h1) ?_|((with_reducible refine D.aw ?_);(fail_if_success with_reducible refine D.stopR (id:=4) ?_);(fail_if_success with_reducible refine D.stopS (id:=4) ?_);first|refine M.ga ?_|refine AW.condS U (fun h=> ?_) (fun h=> ?_))|refine M.gk ?_|fail)
   all_goals first
    |rfl
    |(exfalso;simp at h;exact he h)
    |trace_state
  obtain⟨g1,g2,g3,g4,g5,g6⟩:=Zm0 he
  rw[if_pos he]
  rw[he] at h1 ⊢
  have hv:=Yep []
  have hc:=Yca _ p 0 0 [] (Nat.le_refl _) (by omega) (by omega) (by omega) g4 (hx he)
  rw[List.nil_append] at hc
  obtain⟨hwf,hlen⟩:=Yb2 p g1 (by omega) (hx he)
  have hnd:(nub [] (p.lfl hyF 0)).Nodup:=vw List.nodup_nil
  have hs:=Zf1 (nub [] (p.lfl hyF 0)) hnd hwf hlen
  have e:Zdp p=yj (nub [] (p.lfl hyF 0)):=by unfold Zdp;rw[Yc8]
  rw[e]
  have e0:nub [] []=[]:=rfl
  rw[e0] at hc
  simp only[List.length_nil,List.replicate_zero] at hc hv
  generalize nub [] (p.lfl hyF 0)=ks at*
  refine M.F Tryz.func79 ?_
  repeat'(first|refine M.gw ?_|refine M.c2 (h1) ?_|refine M.cv (hv) [1] 1 ?_|refine M.cv (hc) [2,1] 0 ?_|refine M.cb (hs) [1] 0 ?_|fail)
  all_goals first
   |rfl
   |trace_state
 generalize (if p.err=0 then Zdp p else [])=R at*
 refine M.F Tryz.func16 ?_
 repeat'(first|refine M.gw ?_|refine M.c2 (hcol) ?_|fail)
 rfl
theorem Zkl(p:Pf)(hp:p.full<274877906944)(hx:p.err=0→p.lx 9223372036854775808):PC E 17 [.agg p.view] (.tup [.s .int (if p.err=0 then Ze6 p else []),.i p.err]):=by
 have h1:=Ze0 p hp
 have hcol:PC E 79 [.agg p.view,.fn (.func 83) [] []] (.tup [.s .int (if p.err=0 then Ze6 p else []),.i p.err]):=by
  by_cases he:p.err=0
  case neg=>
   rw[if_neg he]
   refine M.F Tryz.func79 ?_
   repeat'(first|refine M.go ?_|refine M.c2 (h1) ?_|((with_reducible refine D.aw ?_);(fail_if_success with_reducible refine D.stopR (id:=4) ?_);(fail_if_success with_reducible refine D.stopS (id:=4) ?_);first|refine M.ga ?_|refine AW.condS U (fun h=> ?_) (fun h=> ?_))|refine M.gk ?_|fail)
   all_goals first
    |rfl
    |(exfalso;simp at h;exact he h)
    |trace_state
  obtain⟨g1,g2,g3,g4,g5,g6⟩:=Zm0 he
  rw[if_pos he]
  rw[he] at h1 ⊢
  have hv:=Yeb []
  have hc:=Ybe _ p 0 0 [] (Nat.le_refl _) (by omega) (by omega) (by omega) g4 g1
  rw[List.nil_append] at hc
  obtain⟨hwf,hlen⟩:=Ya8 p g1 (by omega) (hx he)
  have hnd:(nub [] (p.lfl lmF 0)).Nodup:=vw List.nodup_nil
  have hs:=Zf1 (nub [] (p.lfl lmF 0)) hnd hwf hlen
  have e:Ze6 p=yj (nub [] (p.lfl lmF 0)):=by unfold Ze6;rw[Yba]
  rw[e]
  have e0:nub [] []=[]:=rfl
  rw[e0] at hc
  simp only[List.length_nil,List.replicate_zero] at hc hv
  generalize nub [] (p.lfl lmF 0)=ks at*
  refine M.F Tryz.func79 ?_
  repeat'(first|refine M.gw ?_|refine M.c2 (h1) ?_|refine M.cv (hv) [1] 1 ?_|refine M.cv (hc) [2,1] 0 ?_|refine M.cb (hs) [1] 0 ?_|fail)
  all_goals first
   |rfl
   |trace_state
 generalize (if p.err=0 then Ze6 p else [])=R at*
 refine M.F Tryz.func17 ?_
 repeat'(first|refine M.gw ?_|refine M.c2 (hcol) ?_|fail)
 rfl
def derE(l:List Ch)(ok:Bool)(p:Pf):Pf×Int:=if y9 Ch.err l≠0 then(Zuq,y9 Ch.err l) else if ok=false then(Zuq,4) else Ybm p
def orE(a b:Fm):Int:=if Zfs a 0 1≠0 then Zfs a 0 1 else if Zfs b 0 1≠0 then Zfs b 0 1 else(orA a b).err
def lftR(a b:Fm)(p:Pf):Pf×Int:=derE [.fm a,.fm b,.pf p] (decide (orE a b=0∧(Zb3 b.dp 262144 b 0).2≥0)) (lftW a b p (Zb3 b.dp 262144 b 0).1)
def rgtR(a b:Fm)(p:Pf):Pf×Int:=derE [.fm a,.fm b,.pf p] (decide (orE a b=0∧(Zb3 a.dp 262144 a 0).2≥0)) (rgtW a b p (Zb3 a.dp 262144 a 0).1)
def casR(a b d:Fm)(p q r:Pf):Pf×Int:=Yew [.fm a,.fm b,.fm d,.pf p,.pf q,.pf r] (Zxl a b d p q r)
def numR(f:Fm)(p q:Pf):Pf×Int:=Yew [.fm f,.pf p,.pf q] (Zjw f p q)
def lisR(f:Fm)(p q:Pf):Pf×Int:=Yew [.fm f,.pf p,.pf q] (Yb3 f p q)
mutual
def Tm.sml:Tm→Bool
 | .mk _ i _ xs=>decide (0≤i)&&decide (i<1000)&&Tm.smls xs
def Tm.smls:List Tm→Bool
 |[]=>true
 |t::l=>t.sml&&Tm.smls l
end
mutual
def Fm.sml:Fm→Bool
 | .mk _ _ ts zs=>ts.all Tm.sml&&Fm.smls zs
def Fm.smls:List Fm→Bool
 |[]=>true
 |t::l=>t.sml&&Fm.smls l
end
mutual
def Pf.sml:Pf→Bool
 | .mk _ i _ ts fs zs=>decide (0≤i)&&decide (i<1000)&&ts.all Tm.sml&&fs.all Fm.sml&&Pf.smls zs
def Pf.smls:List Pf→Bool
 |[]=>true
 |t::l=>t.sml&&Pf.smls l
end
def atP(i j:Int):Pf:=Zy3 (Zcm i) (Zy3 (Zcm j) eqP)
def oneF(i j:Int):Fm:=Zcn (Zcm j) (Zcm i)
theorem Gf.up{g:List Ty}{f:Fm}{n m:Nat}(h:Gf g f n)(hm:n≤m):Gf g f m:=⟨h.sh,Nat.le_trans h.sz hm,h.ok⟩
theorem Yah:∀(b:Nat) (t:Pf) (most:Int),t.full≤b→-100≤most∧most≤1000000000→PC E 78 [.agg t.view,.i most] (.i (t.cn most)):=by
 intro b
 induction b with
 |zero=>intro t most h;have:=t.full_pos;omega
 |succ b ih=>
 intro t most hsz hm
 have hsz':=t.full_eq
 have he:=Pf.cn_eq most t
 have hbt:=t.ty.cn_bd (most-1)
 have h1:=Zmr _ t.ty (most-1) (Nat.le_refl _) (by omega)
 refine M.F Tryz.func78 ?_
 repeat'(first|refine M.gw ?_|refine M.c2 (h1) ?_|fail)
 generalize hn0:1+t.ty.cn (most-1)=n0 at*
 have hn1:2≤n0∧(n0≤2∨n0≤most+1):=by omega
 have hall:=Tm.cns_bd most t.terms n0
 clear hbt h1 hn0
 refine AW.cutT (ι:=Unit) (fun _=>([(1,.i most),(2,.ptr 0 0),(5,.i (Tm.cns most n0 t.terms))],⟨1,[(0,.var t.view)]⟩)) ?_ ?_
 ·refine AW.block (AW.upto t.terms.length (fun i=>(i:Int)<Tm.cns most n0 (t.terms.take i)∧(Tm.cns most n0 (t.terms.take i)≤2∨Tm.cns most n0 (t.terms.take i)≤most+2))
   (fun i=>([(1,.i most),(2,.ptr 0 0),(5,.i (Tm.cns most n0 (t.terms.take i))),(6,.i i)],⟨1,[(0,.var t.view)]⟩))
   ⟨by simp[Tm.cns];omega,by simp[Tm.cns];omega⟩ (M.W [some 0]) fun i hi hP=> ?_)
  obtain⟨p1,p2⟩:=hP
  by_cases hlt:i<t.terms.length
  ·by_cases hle:Tm.cns most n0 (t.terms.take i)≤most
   ·have htk:=Tm.cns_take hlt hle
    have hs2:=zb Tm.full (List.getElem_mem hlt)
    have hx:=t.terms[i].cn_bd (most-Tm.cns most n0 (t.terms.take i))
    have hc:=Zuf _ t.terms[i] (most-Tm.cns most n0 (t.terms.take i)) (Nat.le_refl _) (by omega)
    repeat'(first|refine M.go ?_|((fail_if_success refine AX.wt U ?_);refine AX.gs U U (fun _=>trivial) (fun h=> ?_) (fun h=> ?_))|((with_reducible refine D.aw ?_);(fail_if_success with_reducible refine D.stopR (id:=5) ?_);(fail_if_success with_reducible refine D.stopS (id:=5) ?_);first|refine M.ga ?_|refine AW.condS U (fun h=> ?_) (fun h=> ?_))|refine M.gk ?_|fail)
    all_goals first
     |(exfalso;simp at h;omega)
     |(exfalso;simp at*;omega)
     |skip
    refine K.sq (AW.block ?_)
    repeat'(first|refine M.gw ?_|refine M.c2 (hc) ?_|fail)
    refine⟨hlt,(show((i+1:Nat):Int)<Tm.cns most n0 (t.terms.take (i+1))∧(Tm.cns most n0 (t.terms.take (i+1))≤2∨Tm.cns most n0 (t.terms.take (i+1))≤most+2) by omega),?_⟩
    simp only[htk]
    exact(M.W [some 0])
   ·have e:=Tm.cns_end hle
    rw[←e]
    repeat'(first|refine M.go ?_|((fail_if_success refine AX.wt U ?_);refine AX.gs U U (fun _=>trivial) (fun h=> ?_) (fun h=> ?_))|((with_reducible refine D.aw ?_);(fail_if_success with_reducible refine D.stopR (id:=5) ?_);(fail_if_success with_reducible refine D.stopS (id:=5) ?_);first|refine M.ga ?_|refine AW.condS U (fun h=> ?_) (fun h=> ?_))|refine M.gk ?_|fail)
    all_goals first
     |(exfalso;simp at*;omega)
     |(exfalso;simp at*;rw[e] at*;omega)
     |exact⟨(),(M.W [some 0])⟩
  ·have e:t.terms.take i=t.terms:=List.take_of_length_le (by omega)
   rw[e]
   repeat'(first|refine M.go ?_|((fail_if_success refine AX.wt U ?_);refine AX.gs U U (fun _=>trivial) (fun h=> ?_) (fun h=> ?_))|((with_reducible refine D.aw ?_);(fail_if_success with_reducible refine D.stopR (id:=5) ?_);(fail_if_success with_reducible refine D.stopS (id:=5) ?_);first|refine M.ga ?_|refine AW.condS U (fun h=> ?_) (fun h=> ?_))|refine M.gk ?_|fail)
   all_goals first
    |(exfalso;simp at*;omega)
    |exact⟨(),(M.W [some 0])⟩
 intro _
 generalize Tm.cns most n0 t.terms=n1 at*
 have hn2:2≤n1∧(n1≤2∨n1≤most+2):=by omega
 clear hall hn1
 have hall:=Fm.cns_bd3 most t.forms n1
 repeat'(first|refine M.gw ?_|fail)
 refine AW.cutT (ι:=Unit) (fun _=>([(1,.i most),(2,.ptr 0 0),(5,.i (Fm.cns most n1 t.forms))],⟨1,[(0,.var t.view)]⟩)) ?_ ?_
 ·refine AW.block (AW.upto t.forms.length (fun i=>(i:Int)<Fm.cns most n1 (t.forms.take i)∧(Fm.cns most n1 (t.forms.take i)≤2∨Fm.cns most n1 (t.forms.take i)≤most+2))
   (fun i=>([(1,.i most),(2,.ptr 0 0),(5,.i (Fm.cns most n1 (t.forms.take i))),(7,.i i)],⟨1,[(0,.var t.view)]⟩))
   ⟨by simp[Fm.cns];omega,by simp[Fm.cns];omega⟩ (M.W [some 0]) fun i hi hP=> ?_)
  obtain⟨p1,p2⟩:=hP
  by_cases hlt:i<t.forms.length
  ·by_cases hle:Fm.cns most n1 (t.forms.take i)≤most
   ·have htk:=Fm.cns_take hlt hle
    have hs2:=zb Fm.full (List.getElem_mem hlt)
    have hx:=t.forms[i].cn_bd (most-Fm.cns most n1 (t.forms.take i))
    have hc:=Zzx _ t.forms[i] (most-Fm.cns most n1 (t.forms.take i)) (Nat.le_refl _) (by omega)
    repeat'(first|refine M.go ?_|((fail_if_success refine AX.wt U ?_);refine AX.gs U U (fun _=>trivial) (fun h=> ?_) (fun h=> ?_))|((with_reducible refine D.aw ?_);(fail_if_success with_reducible refine D.stopR (id:=9) ?_);(fail_if_success with_reducible refine D.stopS (id:=9) ?_);first|refine M.ga ?_|refine AW.condS U (fun h=> ?_) (fun h=> ?_))|refine M.gk ?_|fail)
    all_goals first
     |(exfalso;simp at h;omega)
     |(exfalso;simp at*;omega)
     |skip
    refine K.sq (AW.block ?_)
    repeat'(first|refine M.gw ?_|refine M.c2 (hc) ?_|fail)
    refine⟨hlt,(show((i+1:Nat):Int)<Fm.cns most n1 (t.forms.take (i+1))∧(Fm.cns most n1 (t.forms.take (i+1))≤2∨Fm.cns most n1 (t.forms.take (i+1))≤most+2) by omega),?_⟩
    simp only[htk]
    exact(M.W [some 0])
   ·have e:=Fm.cns_end hle
    rw[←e]
    repeat'(first|refine M.go ?_|((fail_if_success refine AX.wt U ?_);refine AX.gs U U (fun _=>trivial) (fun h=> ?_) (fun h=> ?_))|((with_reducible refine D.aw ?_);(fail_if_success with_reducible refine D.stopR (id:=9) ?_);(fail_if_success with_reducible refine D.stopS (id:=9) ?_);first|refine M.ga ?_|refine AW.condS U (fun h=> ?_) (fun h=> ?_))|refine M.gk ?_|fail)
    all_goals first
     |(exfalso;simp at*;omega)
     |(exfalso;simp at*;rw[e] at*;omega)
     |exact⟨(),(M.W [some 0])⟩
  ·have e:t.forms.take i=t.forms:=List.take_of_length_le (by omega)
   rw[e]
   repeat'(first|refine M.go ?_|((fail_if_success refine AX.wt U ?_);refine AX.gs U U (fun _=>trivial) (fun h=> ?_) (fun h=> ?_))|((with_reducible refine D.aw ?_);(fail_if_success with_reducible refine D.stopR (id:=9) ?_);(fail_if_success with_reducible refine D.stopS (id:=9) ?_);first|refine M.ga ?_|refine AW.condS U (fun h=> ?_) (fun h=> ?_))|refine M.gk ?_|fail)
   all_goals first
    |(exfalso;simp at*;omega)
    |exact⟨(),(M.W [some 0])⟩
 intro _
 generalize Fm.cns most n1 t.forms=n2 at*
 have hn3:2≤n2∧(n2≤2∨n2≤most+2):=by omega
 clear hall hn2
 repeat'(first|refine M.gw ?_|fail)
 refine AW.block (AW.upto t.args.length (fun i=>(i:Int)<Pf.cns most n2 (t.args.take i)∧(Pf.cns most n2 (t.args.take i)≤2∨Pf.cns most n2 (t.args.take i)≤most+2))
  (fun i=>([(1,.i most),(2,.ptr 0 0),(5,.i (Pf.cns most n2 (t.args.take i))),(8,.i i)],⟨1,[(0,.var t.view)]⟩))
  ⟨by simp[Pf.cns];omega,by simp[Pf.cns];omega⟩ (M.W [some 0]) fun i hi hP=> ?_)
 obtain⟨p1,p2⟩:=hP
 by_cases hlt:i<t.args.length
 ·by_cases hle:Pf.cns most n2 (t.args.take i)≤most
  ·have htk:=Pf.cns_take hlt hle
   have hs2:=zb Pf.full (List.getElem_mem hlt)
   have hx:=t.args[i].cn_bd (most-Pf.cns most n2 (t.args.take i))
   have hc:=ih t.args[i] (most-Pf.cns most n2 (t.args.take i)) (by omega) (by omega)
   repeat'(first|refine M.go ?_|((fail_if_success refine AX.wt U ?_);refine AX.gs U U (fun _=>trivial) (fun h=> ?_) (fun h=> ?_))|((with_reducible refine D.aw ?_);(fail_if_success with_reducible refine D.stopR (id:=13) ?_);(fail_if_success with_reducible refine D.stopS (id:=13) ?_);first|refine M.ga ?_|refine AW.condS U (fun h=> ?_) (fun h=> ?_))|refine M.gk ?_|fail)
   all_goals first
    |(exfalso;simp at h;omega)
    |(exfalso;simp at*;omega)
    |skip
   refine K.sq (AW.block ?_)
   repeat'(first|refine M.gw ?_|refine M.c2 (hc) ?_|fail)
   refine⟨hlt,(show((i+1:Nat):Int)<Pf.cns most n2 (t.args.take (i+1))∧(Pf.cns most n2 (t.args.take (i+1))≤2∨Pf.cns most n2 (t.args.take (i+1))≤most+2) by omega),?_⟩
   simp only[htk]
   exact(M.W [some 0])
  ·have e:=Pf.cns_end hle
   repeat'(first|refine M.go ?_|((fail_if_success refine AX.wt U ?_);refine AX.gs U U (fun _=>trivial) (fun h=> ?_) (fun h=> ?_))|((with_reducible refine D.aw ?_);(fail_if_success with_reducible refine D.stopR (id:=13) ?_);(fail_if_success with_reducible refine D.stopS (id:=13) ?_);first|refine M.ga ?_|refine AW.condS U (fun h=> ?_) (fun h=> ?_))|refine M.gk ?_|fail)
   all_goals first
    |(exfalso;simp at*;omega)
    |(rw[he,e];rfl)
 ·have e:t.args.take i=t.args:=List.take_of_length_le (by omega)
  rw[e]
  repeat'(first|refine M.go ?_|((fail_if_success refine AX.wt U ?_);refine AX.gs U U (fun _=>trivial) (fun h=> ?_) (fun h=> ?_))|((with_reducible refine D.aw ?_);(fail_if_success with_reducible refine D.stopR (id:=13) ?_);(fail_if_success with_reducible refine D.stopS (id:=13) ?_);first|refine M.ga ?_|refine AW.condS U (fun h=> ?_) (fun h=> ?_))|refine M.gk ?_|fail)
  all_goals first
   |(exfalso;simp at*;omega)
   |(rw[he];rfl)
def earI(a b:Int):Int:=if a≠0 then a else b
theorem Zb0(i:Int):PC E 31 [.i i] (.agg (va i).view):=by
 refine M.F Tryz.func31 ?_
 repeat'(first|refine M.gw ?_|fail)
 rfl
theorem Zsc(t:Tm)(he:t.shape=true)(hf:t.full<100000000000)(hix:∀p∈t.vars 0,0≤p.1∧p.1<549755813888):PC E 216 [.agg t.view,.i 1] (.agg (t.re (zq 0 1) 0).view):=by
 have h:=Zzn 1 (by omega) _ t 0 (Nat.le_refl _) (by omega) (by omega) (by omega) he hix
 generalize t.re (zq 0 1) 0=u at*
 refine M.F Tryz.func216 ?_
 repeat'(first|refine M.gw ?_|refine M.c2 (h) ?_|fail)
 simp[zi,V.wk,V.wks,za,Ty.view,Tm.view]
theorem Zrd(g s:Tm)(p:Pf)(hg:TmI g)(hs:TmI s)(hp:p.full<100000000000):PC E 167 [.agg g.view,.agg s.view,.agg p.view] (.agg (Zkw g s p).view):=by
 have f1:=hg.2.2
 have f2:=hs.2.2
 have l1:=Zaa 0 1 g 0 hg.1
 have l2:=Zaa 0 1 s 0 hs.1
 have h1:=Zsc g hg.1 (by omega) (fun q hq=>by have:=hg.2.1 q hq;omega)
 have h2:=Zsc s hs.1 (by omega) (fun q hq=>by have:=hs.2.1 q hq;omega)
 have h3:=Zbb 0
 have h4:=n_c 3 [g,s] (by simp;omega)
 unfold Zkw Zbk y4
 generalize g.re (zq 0 1) 0=g1 at*
 generalize s.re (zq 0 1) 0=s1 at*
 have h5:=n_c 3 [g1,s1] (by simp;omega)
 have h6:=n_c 3 [g1,vT 0] (by simp[Zed];omega)
 have h7:=Zb5 (apT g1 s1) (apT g1 (vT 0)) (by rw[Zee];omega) (by rw[Zee,Zed];omega)
 have h8:=vh (apT g s) (by rw[Zee];omega)
 have h9:=Zhn (eqF (apT g1 s1) (apT g1 (vT 0))) p (.mk 18 0 (.mk 0 []) [apT g s] [] []) (by rw[Zoe,Zee,Zee,Zed];omega) (by omega) (by rw[wc,v8];simp[Zee];omega)
 refine M.F Tryz.func167 ?_
 repeat'(first|refine M.gw ?_|refine M.c2 (h1) ?_|refine M.c2 (h2) ?_|refine M.c2 (h3) ?_|refine M.c2 (h4) ?_|refine M.c2 (h5) ?_|refine M.c2 (h6) ?_|refine M.c2 (h7) ?_|refine M.c2 (h8) ?_|refine M.c2 (h9) ?_|fail)
 all_goals first
  |rfl
  |trace_state
theorem Zmj(ts:List Tm)(p:Pf)(ht:∀t∈ts,t.err=0)(hp:p.err=0)(hpf:p.full<500000000000)(hl:ts.length≤1000):PC E 168 [.s .tm ts,.s .fm [],.s .pf [p]] (.i 0):=by
 have hk:=Zko p (by omega)
 rw[hp] at hk
 refine M.F Tryz.func168 ?_
 repeat'(first|refine M.gw ?_|fail)
 refine AW.range ts.length (fun m=>True) (fun m=>([(1,.s .fm []),(2,.s .pf [p]),(16,.s .tm ts),(17,.i ts.length),(18,.i m)],⟨0,[]⟩))
  (by omega) (fun m=>rfl) (fun m=>rfl) rfl trivial (M.W []) ?_ ?_
 ·intro m hm _
  have hc:=vn ts[m] (by have:=z8 (ht _ (List.getElem_mem hm));omega)
  rw[ht _ (List.getElem_mem hm)] at hc
  repeat'(first|refine M.gw ?_|refine M.c2 (hc) ?_|fail)
  exact⟨rfl,trivial,(M.W [])⟩
 intro _
 repeat'(first|refine M.gw ?_|fail)
 refine AW.range ([]:List Fm).length (fun m=>True) (fun m=>([(2,.s .pf [p]),(28,.s .fm []),(29,.i ([]:List Fm).length),(30,.i m)],⟨0,[]⟩))
  (by simp) (fun m=>rfl) (fun m=>rfl) rfl trivial (M.W []) ?_ ?_
 ·intro m hm _
  exact absurd hm (by simp)
 intro _
 repeat'(first|refine M.gw ?_|fail)
 refine AW.range ([p]:List Pf).length (fun m=>True) (fun m=>([(40,.s .pf [p]),(41,.i ([p]:List Pf).length),(42,.i m)],⟨0,[]⟩))
  (by simp) (fun m=>rfl) (fun m=>rfl) rfl trivial (M.W []) ?_ ?_
 ·intro m hm _
  obtain rfl:m=0:=by simpa using hm
  repeat'(first|refine M.gw ?_|refine M.c2 (hk) ?_|fail)
  exact⟨rfl,trivial,(M.W [])⟩
 intro _
 repeat'(first|refine M.gw ?_|fail)
 rfl
theorem Zpg(p:Pf)(hp:p.err=0)(hpf:p.full<500000000000):PC E 166 [.agg p.view,.i 0] (.tup [.agg p.view,.i 0]):=by
 have h1:=Zt0 p (by omega)
 have h2:=(Pf.err_iff p).1 hp
 have e:(p.small&&decide (p.size≤16384))=true:=by simp[h2.2.1,h2.2.2]
 rw[e] at h1
 have h3:=Znk _ p (Nat.le_refl _) (by omega)
 refine M.F Tryz.func166 ?_
 repeat'(first|refine M.gw ?_|refine M.c2 (h1) ?_|refine M.c2 (h3) ?_|fail)
 rfl
theorem Zsd(g s t:Tm)(p:Pf)(hg:TmI g)(hs:TmI s)(eg:g.err=0)(es:s.err=0)(et:t.err=0)(ep:p.err=0)(hp:p.full<100000000000)(ec:(Zkw g s p).err=0):
 PC E 113 [.agg g.view,.agg s.view,.agg t.view,.agg p.view] (.tup [.agg (Zkw g s p).view,.i 0]):=by
 have f1:=hg.2.2
 have f2:=hs.2.2
 have h1:=Zrd g s p hg hs hp
 have h2:=Zmj [g,s,t] p (by simp[eg,es,et]) ep (by omega) (by simp)
 have h3:=Zpg (Zkw g s p) ec (by have:=Zjj _ ((Pf.err_iff _).1 ec).1;have:=((Pf.err_iff _).1 ec).2.2;omega)
 generalize Zkw g s p=P at*
 refine M.F Tryz.func113 ?_
 repeat'(first|refine M.gw ?_|refine M.c2 (h1) ?_|refine M.c2 (h2) ?_|refine M.c2 (h3) ?_|fail)
 all_goals first
  |rfl
  |trace_state
def plus0:Tm:=apT (apT plusT zT) (vT 0)
def zeroStep:Pf:=Zkw sucT plus0 (va 0)
def Zoq(t:Tm):Pf:= .mk 16 0 (.mk 0 []) [t] [eqF plus0 (vT 0)] [y4 zT,zeroStep]
theorem Zlh(t:Tm)(h1:t.shape=true)(h2:(t.vars 0).all (fun q=>decide (0≤q.1∧q.1<10000))=true)(h3:t.full≤300000):TmI t:=
 ⟨h1,fun q hq=>by simpa using List.all_eq_true.1 h2 q hq,h3⟩
theorem Zyj(t:Tm)(ht:t.full<100000000000):PC E 51 [.agg t.view] (.agg (Zoq t).view):=by
 have h1:=Zxk
 have h2:=Zu5 0
 have e0:Zcm 0=zT:=by decide
 rw[e0] at h2
 have h3:=Zbb 0
 have h4:=Zg5 plusT [zT,vT 0] (by decide)
 have h5:=Zb5 plus0 (vT 0) (by decide) (by decide)
 have h6:=vb
 have h7:=n_c 5 [vT 0] (by decide)
 have h8:=t_c 2 natT [sT (vT 0)] (by decide) (by decide)
 have h9:=Zb0 0
 have h10:=Zsd sucT plus0 (vT 0) (va 0) (Zlh _ (by decide+kernel) (by decide+kernel) (by decide+kernel)) (Zlh _ (by decide+kernel) (by decide+kernel) (by decide+kernel)) (by decide+kernel) (by decide+kernel) (by decide+kernel) (by decide+kernel) (by decide+kernel) (by decide+kernel)
 have hz:zeroStep.full<1000:=by decide+kernel
 have h11:=vh zT (by decide)
 have h12:=Ziw 16 (eqF plus0 (vT 0)) t (.mk 18 0 (.mk 0 []) [zT] [] []) zeroStep (by decide+kernel) (by omega) (by decide+kernel) (by omega)
 have e1:Zkw sucT plus0 (va 0)=zeroStep:=rfl
 rw[e1] at h10
 have e2:List.foldl apT plusT [zT,vT 0]=plus0:=rfl
 rw[e2] at h4
 unfold Zoq
 generalize zeroStep=Z at*
 generalize va 0=H at*
 generalize plus0=P0 at*
 refine M.F Tryz.func51 ?_
 repeat'(first|refine M.gw ?_|refine M.c2 (h1) ?_|refine M.c2 (h2) ?_|refine M.c2 (h3) ?_|refine M.c2 (h4) ?_|refine M.c2 (h5) ?_|refine M.c2 (h6) ?_|refine M.c2 (h7) ?_|refine M.c2 (h8) ?_|refine M.c2 (h9) ?_|refine M.c2 (h10) ?_|refine M.c2 (h11) ?_|refine M.c2 (h12) ?_|fail)
 all_goals first
  |rfl
  |trace_state
def Zmv(t:Tm):Fm:=quF 5 natT (eqF (t.re (zq 0 1) 0) (vT 0))
theorem Zr2(d:Dk)(hd:d.ok)(g:List Ty)(hyps:List Fm)(hg:smalls g)(hl:g.length≤16):
 AC E 53 [.ptr 0 0,.agg [.s .ty g,.s .fm hyps]] ⟨1,[(0,.var d.cells)]⟩ (.agg [.i 10,.i 0,.i 0,.s .ty [],.s .tm [(Dk.tm 3 d g natT).1],.arr 1 1 5,.s .pf [y4 (Dk.tm 3 d g natT).1]])
  ⟨2,[(0,.var (Dk.tm 3 d g natT).2.cells),(1,.var (Zmv (Dk.tm 3 d g natT).1).view)]⟩∧
 AC E 53 [.ptr 0 0,.agg [.s .ty g,.s .fm hyps]] ⟨1,[(0,.var d.cells)]⟩ (.agg (Zit (Zmv (Dk.tm 3 d g natT).1) (Dk.tm 3 d g natT).1 (y4 (Dk.tm 3 d g natT).1)).view)
  ⟨1,[(0,.var (Dk.tm 3 d g natT).2.cells)]⟩:=by
 have h1:=vb
 have h2:=Zex 3 (by omega) d g natT 1 (by omega) hd hg ze (by omega) (by omega) (by omega)
 have hm:=(un d hg).1
 have hf:=z8 hm.err
 generalize Dk.tm 3 d g natT=T at*
 obtain⟨t,d2⟩:=T
 simp only at hm hf
 have h3:=Zss (g:=g) hm.err hm.inf (by omega)
 have h4:=Zbb 0
 have l1:=Zaa 0 1 t 0 hm.shape
 have h7:=vh t (by omega)
 unfold Zmv Zit y4
 generalize t.re (zq 0 1) 0=u at*
 have h5:=Zb5 u (vT 0) (by omega) (by rw[Zed];omega)
 have h6:=Zet 5 natT (eqF u (vT 0)) (by decide) (by rw[Zoe,Zed];omega)
 have fq:(quF 5 natT (eqF u (vT 0))).full<1000000:=by have e:natT.size=1:=rfl;simp only[quF,Fm.full,Fm.fulls,List.map_nil,List.sum_nil];rw[Zoe,Zed,e];omega
 have fr:(Pf.mk 18 0 (.mk 0 []) [t] [] []).full<1000000:=by rw[wc,v8];simp;omega
 have h8:=Zxb 10 (quF 5 natT (eqF u (vT 0))) t (.mk 18 0 (.mk 0 []) [t] [] []) (by omega) (by omega) (by omega)
 have h9:=Zcv 10 (quF 5 natT (eqF u (vT 0))) t (.mk 18 0 (.mk 0 []) [t] [] []) (by omega) (by omega) (by omega)
 constructor
 ·refine M.F Tryz.func53 ?_
  repeat'(first|refine M.gw ?_|refine M.c2 (h1) ?_|refine M.cb (h2) [0] 0 ?_|refine M.c2 (h3) ?_|refine M.c2 (h4) ?_|refine M.c2 (h5) ?_|refine M.c2 (h6) ?_|refine M.c2 (h7) ?_|refine M.cb (h8) [] 1 ?_|fail)
  refine K.rt [some 0,some 5] rfl rfl rfl rfl rfl ?_ rfl ?_
  ·exact ⟨⟨_,rfl,_,rfl,_,rfl,VsLe.refl _⟩,⟨_,rfl,_,rfl,_,rfl,VsLe.refl _⟩,trivial⟩
  ·first
    |exact VLe.refl _
    |(refine VLe.of_eq ?_;simp[zi,Ty.view,Tm.view];rfl)
 ·refine M.F Tryz.func53 ?_
  repeat'(first|refine M.gw ?_|refine M.c2 (h1) ?_|refine M.cb (h2) [0] 0 ?_|refine M.c2 (h3) ?_|refine M.c2 (h4) ?_|refine M.c2 (h5) ?_|refine M.c2 (h6) ?_|refine M.c2 (h7) ?_|refine M.c2 (h9) ?_|fail)
  (exact M.n2 [some 0] (h8:=(by simp[zi,V.wk,V.wks,za,Ty.view,Tm.view,Pf.view])))
def Dk.lmN(d:Dk):Nat:=(d.next 3).1.toNat
def Dk.lm(d:Dk):List Fm×Dk:=Dk.fms d.lmN (d.next 3).2 []
theorem Dk.lm_len(d:Dk):d.lm.1.length≤2:=by
 have:=Dk.next_bd d 3 (by omega)
 unfold Dk.lm Dk.lmN
 rw[Dk.fms_len]
 omega
theorem Dk.lm_ok{d:Dk}(h:d.ok):d.lm.2.ok:=Dk.fms_ok _ _ _ (Dk.next_ok h 3)
theorem Zws(d:Dk)(hd:d.ok):AC E 9 [.ptr 0 0] ⟨1,[(0,.var d.cells)]⟩ (.s .fm d.lm.1) ⟨1,[(0,.var d.lm.2.cells)]⟩:=by
 have h1:=ud d 3 hd (by omega)
 have hb:=Dk.next_bd d 3 (by omega)
 obtain⟨c,hc⟩:∃c:Nat,(d.next 3).1=c:=⟨(d.next 3).1.toNat,by omega⟩
 have hx:d.lm=Dk.fms c (d.next 3).2 []:=by unfold Dk.lm Dk.lmN;rw[hc];rfl
 rw[hc] at h1 hb
 rw[hx]
 have hdo:=Dk.next_ok hd 3
 generalize (d.next 3).2=d2 at*
 refine M.F Tryz.func9 ?_
 repeat'(first|refine M.gw ?_|refine M.cb (h1) [0] 0 ?_|fail)
 refine AW.down c (fun m=>m≤c)
  (fun m=>([(0,.ptr 0 0),(3,.slice (.own 1) (.t .fm (Dk.fms (c-m) d2 []).1)),(4,.i m)],⟨2,[(0,.var (Dk.fms (c-m) d2 []).2.cells),(1,.row)]⟩))
  (by omega) (fun m=>rfl) rfl (Nat.le_refl _) ?_ ?_ ?_
 ·simp only[Nat.sub_self]
  exact(M.W [some 0,none])
 ·intro m hm hP
  have e:=Dk.fms_snoc (c-(m+1)) d2 []
  rw[show c-(m+1)+1=c-m by omega] at e
  have h3:=Zs2 2 (Dk.fms (c-(m+1)) d2 []).2 [] 2 (by omega) rfl (Dk.fms_ok _ _ _ hdo) zj (by simp)
  have hl:=Dk.fms_len (c-(m+1)) d2 []
  repeat'(first|refine M.gw ?_|refine M.cb (h3) [0] 0 ?_|fail)
  refine⟨rfl,by omega,?_⟩
  simp only[e]
  exact(M.W [some 0,some 2])
 ·intro _
  simp only[Nat.sub_zero]
  repeat'(first|refine M.gw ?_|fail)
  (exact M.n2 [some 0] (h8:=(by simp[zi,V.wk,V.wks,za,Ty.view,Tm.view,V.frz])))
end Go.Ab
