/- A part of the proofs of this seat's statements: S125, S129, S130, Y0, Y1, Y2. It has no conditions of its own. -/
import Derived.Test.YtdkjbjikpofgbaaGreatDoorA2
import Derived.Test.YtdkjbjikpofgbaaGreatDoorST3
import Derived.Test.YtdkjbjikpofgbaaGreatDoorDT1
import Derived.Test.YtdkjbjikpofgbaaGreatDoorS3
import Derived.Shelf.SlIterI.Sorted
import Derived.Shelf.SlIterI.Keys
import Derived.Shelf.SortM.Plain
import Derived.Shelf.SortM.SortNone
import Derived.Test.YtdkjbjikpofgbaaGreatDoorRows
import Derived.Test.YtdkjbjikpofgbaaGreatDoorS1
import Derived.Test.YtdkjbjikpofgbaaGreatDoorAT1
namespace Go.Ab
open Go Go.Proofs
set_option maxRecDepth 100000
set_option maxHeartbeats 4000000
set_option linter.all false
theorem Ydf(Xs:List Bool)(t:Tm)(bl:Int)(ht:t.full<1099511627776):AC E 114 [.agg t.view,.i bl,.ptr 0 0] ⟨1,[(0,.var [.bool (Xs.all id)])]⟩ (.tup []) ⟨1,[(0,.var [.bool ((Xs++[t.near]).all id)])]⟩:=by
 have hc:=Zsn t ht
 have e:(Xs++[t.near]).all id=(Xs.all id&&t.near):=by simp[List.all_append]
 rw[e]
 generalize Xs.all id=b
 generalize t.near=c at*
 cases b
 all_goals
  refine M.F Tryz.func114 ?_
  repeat'(first|refine M.gw ?_|refine M.c2 (hc) ?_|fail)
  (exact M.n2 [some 0] (h8:=(by simp[zi,V.wk,V.wks,za,Ty.view,Tm.view,Bool.true_and,Bool.false_and])))
theorem Ybt(Xs:List Bool)(t:Fm)(bl:Int)(ht:t.full<274877906944):AC E 115 [.agg t.view,.i bl,.ptr 0 0] ⟨1,[(0,.var [.bool (Xs.all id)])]⟩ (.tup []) ⟨1,[(0,.var [.bool ((Xs++[t.near]).all id)])]⟩:=by
 have hc:=Zwm t ht
 have e:(Xs++[t.near]).all id=(Xs.all id&&t.near):=by simp[List.all_append]
 rw[e]
 generalize Xs.all id=b
 generalize t.near=c at*
 cases b
 all_goals
  refine M.F Tryz.func115 ?_
  repeat'(first|refine M.gw ?_|refine M.c2 (hc) ?_|fail)
  (exact M.n2 [some 0] (h8:=(by simp[zi,V.wk,V.wks,za,Ty.view,Tm.view,Bool.true_and,Bool.false_and])))
theorem Ybx:∀(n:Nat) (p:Pf) (v y:Int) (Xs:List Bool),p.full≤n→n<10000000000→(0≤v∧v+2*n≤50000000000)→(0≤y∧y+2*n≤50000000000)→p.nd→
 AC E 58 [.agg p.view,.agg [.i v,.i y],.agg [.fn (.func 114) [] [.ptr 0 0],.fn (.func 115) [] [.ptr 0 0],.nilf]] ⟨1,[(0,.var [.bool (Xs.all id)])]⟩ (.tup []) ⟨1,[(0,.var [.bool ((Xs++p.tfl (fun(_:Int) (t:Tm)=>t.near) (fun(_:Int) (f:Fm)=>f.near) v).all id)])]⟩:=by
 intro n
 induction n with
 |zero=>intro p v y Xs hz;have:=p.full_pos;omega
 |succ n ih=>
 intro p v y Xs hz hn hv hh hs
 have hre:=p.tfl_eq (fun(_:Int) (t:Tm)=>t.near) (fun(_:Int) (f:Fm)=>f.near) v
 have hsz':=p.full_eq
 have hlen:=zc Pf.full Pf.full_pos p.args
 have hlen1:=zc Fm.full Fm.full_pos p.forms
 have hlen2:=zc Tm.full Tm.full_pos p.terms
 have hru:=Zck p.kind
 obtain⟨⟨nd,n1,n4⟩,hpf⟩:=(Pf.nd_iff p).1 hs
 have hal:p.args.length≤2:=by
  rw[n4]
  unfold ndP at n1
  repeat(split at n1;· cases n1;decide)
  cases n1
 have hpl:=fun(m:Nat) (hm:m≤1000000)=>vu p.kind v y nd n1 m hm (by omega) (by omega)
 have e2:ruC p.kind=[.bool nd.index,.bool nd.typ,.i nd.terms,.i nd.forms,.i nd.args,.i (fvK p.kind),.i (vaK p.kind),.i (hyK p.kind)]:=by unfold ruC;rw[n1]
 have b1:0≤vaK p.kind∧vaK p.kind≤2:=by unfold vaK;split<;>(try split)<;>omega
 have b2:0≤hyK p.kind∧hyK p.kind≤1:=by unfold hyK;split<;>omega
 have b3:0≤fvK p.kind∧fvK p.kind≤1:=by unfold fvK;split<;>omega
 rw[n1] at hru
 simp only[Option.isSome_some] at hru
 rw[e2] at hru
 simp only[e2] at hpl
 clear n1 e2
 obtain⟨x3,x4,x5,ix,x2⟩:=nd
 simp only at n4 hru hpl
 cases ix
 ·refine M.F Tryz.func58 ?_
  repeat'(first|refine M.gw ?_|refine M.c2 (hru) ?_|fail)
  refine AW.range p.terms.length (fun m=>True)
   (fun m=>([(3,.ptr 1 0),(4,.ptr 2 0),(5,.ptr 3 0),(6,.ptr 4 0),(33,.s .tm p.terms),(34,.i p.terms.length),(35,.i m)],⟨5,[(0,.var [.bool ((Xs++(p.terms.take m).map ((fun(_:Int) (t:Tm)=>t.near) v)).all id)]),(1,.var p.view),(2,.var [.i v,.i y]),(3,.var [.fn (.func 114) [] [.ptr 0 0],.fn (.func 115) [] [.ptr 0 0],.nilf]),(4,.var [.bool false,.bool x2,.i x3,.i x4,.i x5,.i (fvK p.kind),.i (vaK p.kind),.i (hyK p.kind)])]⟩))
   (by omega) (fun m=>rfl) (fun m=>rfl) U trivial (M.W [some 0,some 1,some 2,some 3,some 4] (he:=(by(repeat'(first|exact trivial|refine And.intro ?_ ?_|refine⟨_,U,_,U,_,U,?_⟩|exact VLe.refl _|exact VLe.of_eq (by simp[Sto.upd,List.take_zero,List.map_nil,List.append_nil])));done))) ?_ ?_
  ·intro m hm _
   have hs2:=zb Tm.full (List.getElem_mem hm)
   have hc:=Ydf (Xs++(p.terms.take m).map ((fun _ t=>t.near) v)) p.terms[m] v (by omega)
   repeat'(first|refine M.gw ?_|refine M.cv (hc) [0] 0 ?_|fail)
   exact⟨rfl,trivial,(M.W [some 0,some 1,some 2,some 3,some 4] (he:=(by(repeat'(first|exact trivial|refine And.intro ?_ ?_|refine⟨_,U,_,U,_,U,?_⟩|exact VLe.refl _|exact VLe.of_eq (by simp[Sto.upd,yc _ _ _ hm,List.append_assoc])));done)))⟩
  ·intro _
   simp only[List.take_length]
   repeat'(first|refine M.gw ?_|fail)
   refine AW.range p.forms.length (fun m=>True)
    (fun m=>([(3,.ptr 1 0),(4,.ptr 2 0),(5,.ptr 3 0),(6,.ptr 4 0),(50,.s .fm p.forms),(51,.i p.forms.length),(52,.i m)],⟨5,[(0,.var [.bool ((Xs++p.terms.map ((fun(_:Int) (t:Tm)=>t.near) v)++(p.forms.take m).map ((fun(_:Int) (f:Fm)=>f.near) (v+fvK p.kind))).all id)]),(1,.var p.view),(2,.var [.i v,.i y]),(3,.var [.fn (.func 114) [] [.ptr 0 0],.fn (.func 115) [] [.ptr 0 0],.nilf]),(4,.var [.bool false,.bool x2,.i x3,.i x4,.i x5,.i (fvK p.kind),.i (vaK p.kind),.i (hyK p.kind)])]⟩))
    (by omega) (fun m=>rfl) (fun m=>rfl) U trivial (M.W [some 0,some 1,some 2,some 3,some 4] (he:=(by(repeat'(first|exact trivial|refine And.intro ?_ ?_|refine⟨_,U,_,U,_,U,?_⟩|exact VLe.refl _|exact VLe.of_eq (by simp[Sto.upd,List.take_zero,List.map_nil,List.append_nil])));done))) ?_ ?_
   ·intro m hm _
    have hs2:=zb Fm.full (List.getElem_mem hm)
    have hc:=Ybt (Xs++p.terms.map ((fun _ t=>t.near) v)++(p.forms.take m).map ((fun _ f=>f.near) (v+fvK p.kind))) p.forms[m] (v+fvK p.kind) (by omega)
    repeat'(first|refine M.gw ?_|refine M.cv (hc) [0] 0 ?_|fail)
    exact⟨rfl,trivial,(M.W [some 0,some 1,some 2,some 3,some 4] (he:=(by(repeat'(first|exact trivial|refine And.intro ?_ ?_|refine⟨_,U,_,U,_,U,?_⟩|exact VLe.refl _|exact VLe.of_eq (by simp[Sto.upd,yc _ _ _ hm,List.append_assoc])));done)))⟩
   ·intro _
    simp only[List.take_length]
    repeat'(first|refine M.gw ?_|fail)
    refine AW.range p.args.length (fun m=>True)
     (fun m=>([(3,.ptr 1 0),(4,.ptr 2 0),(5,.ptr 3 0),(6,.ptr 4 0),(70,.s .pf p.args),(71,.i p.args.length),(72,.i m)],⟨5,[(0,.var [.bool ((Xs++p.terms.map ((fun(_:Int) (t:Tm)=>t.near) v)++p.forms.map ((fun(_:Int) (f:Fm)=>f.near) (v+fvK p.kind))++((Pf.tfls (fun(_:Int) (t:Tm)=>t.near) (fun(_:Int) (f:Fm)=>f.near) v (vaK p.kind) p.args).take m).flatten).all id)]),(1,.var p.view),(2,.var [.i v,.i y]),(3,.var [.fn (.func 114) [] [.ptr 0 0],.fn (.func 115) [] [.ptr 0 0],.nilf]),(4,.var [.bool false,.bool x2,.i x3,.i x4,.i x5,.i (fvK p.kind),.i (vaK p.kind),.i (hyK p.kind)])]⟩))
     (by omega) (fun m=>rfl) (fun m=>rfl) U trivial (M.W [some 0,some 1,some 2,some 3,some 4] (he:=(by(repeat'(first|exact trivial|refine And.intro ?_ ?_|refine⟨_,U,_,U,_,U,?_⟩|exact VLe.refl _|exact VLe.of_eq (by simp[Sto.upd,List.take_zero,List.flatten_nil,List.append_nil])));done))) ?_ ?_
    ·intro m hm _
     have hs2:=zb Pf.full (List.getElem_mem hm)
     have hb:=hpl m (by omega)
     have hc:=ih p.args[m] (if m+1=p.args.length then v+vaK p.kind else v) (if m+1=p.args.length then y+hyK p.kind else y) (Xs++p.terms.map ((fun(_:Int) (t:Tm)=>t.near) v)++p.forms.map ((fun(_:Int) (f:Fm)=>f.near) (v+fvK p.kind))++((Pf.tfls (fun(_:Int) (t:Tm)=>t.near) (fun(_:Int) (f:Fm)=>f.near) v (vaK p.kind) p.args).take m).flatten) (by omega) (by omega) (by split<;>omega) (by split<;>omega) (hpf _ (List.getElem_mem hm))
     have e3:(Xs++p.terms.map ((fun(_:Int) (t:Tm)=>t.near) v)++p.forms.map ((fun(_:Int) (f:Fm)=>f.near) (v+fvK p.kind))++((Pf.tfls (fun(_:Int) (t:Tm)=>t.near) (fun(_:Int) (f:Fm)=>f.near) v (vaK p.kind) p.args).take m).flatten)++p.args[m].tfl (fun(_:Int) (t:Tm)=>t.near) (fun(_:Int) (f:Fm)=>f.near) (if m+1=p.args.length then v+vaK p.kind else v)=(Xs++p.terms.map ((fun(_:Int) (t:Tm)=>t.near) v)++p.forms.map ((fun(_:Int) (f:Fm)=>f.near) (v+fvK p.kind))++((Pf.tfls (fun(_:Int) (t:Tm)=>t.near) (fun(_:Int) (f:Fm)=>f.near) v (vaK p.kind) p.args).take (m+1)).flatten):=by rw[List.append_assoc,Zdc (fun(_:Int) (t:Tm)=>t.near) (fun(_:Int) (f:Fm)=>f.near) hm]
     rw[e3] at hc
     have ev:(if(m:Int)=(x5:Int)-1 then y+hyK p.kind else y)=(if m+1=p.args.length then y+hyK p.kind else y):=by
      by_cases hx:m+1=p.args.length
      ·rw [if_pos hx,if_pos (by omega)]
      ·rw [if_neg hx,if_neg (by omega)]
     have ev2:(if(m:Int)=(x5:Int)-1 then v+vaK p.kind else v)=(if m+1=p.args.length then v+vaK p.kind else v):=by
      by_cases hx:m+1=p.args.length
      ·rw [if_pos hx,if_pos (by omega)]
      ·rw [if_neg hx,if_neg (by omega)]
     rw[ev,ev2] at hb
     repeat'(first|refine M.gw ?_|refine M.c2 (hb) ?_|refine M.cv (hc) [0] 0 ?_|fail)
     exact⟨rfl,trivial,(M.W [some 0,some 1,some 2,some 3,some 4])⟩
    ·intro _
     rw[hre]
     simp only[Zfr]
     skip
     (exact M.n2 [some 0] (h6:=(by(repeat'(first|exact trivial|refine And.intro ?_ ?_|refine⟨_,U,_,U,_,U,?_⟩|exact VLe.of_eq (by simp[Sto.upd,List.append_assoc])));done)) (h8:=(by simp[zi,V.wk,V.wks,za,Ty.view,Tm.view,List.append_assoc])))
 ·refine M.F Tryz.func58 ?_
  repeat'(first|refine M.gw ?_|refine M.c2 (hru) ?_|fail)
  refine AW.range p.terms.length (fun m=>True)
   (fun m=>([(3,.ptr 1 0),(4,.ptr 2 0),(5,.ptr 3 0),(6,.ptr 4 0),(33,.s .tm p.terms),(34,.i p.terms.length),(35,.i m)],⟨5,[(0,.var [.bool ((Xs++(p.terms.take m).map ((fun(_:Int) (t:Tm)=>t.near) v)).all id)]),(1,.var p.view),(2,.var [.i v,.i y]),(3,.var [.fn (.func 114) [] [.ptr 0 0],.fn (.func 115) [] [.ptr 0 0],.nilf]),(4,.var [.bool true,.bool x2,.i x3,.i x4,.i x5,.i (fvK p.kind),.i (vaK p.kind),.i (hyK p.kind)])]⟩))
   (by omega) (fun m=>rfl) (fun m=>rfl) U trivial (M.W [some 0,some 1,some 2,some 3,some 4] (he:=(by(repeat'(first|exact trivial|refine And.intro ?_ ?_|refine⟨_,U,_,U,_,U,?_⟩|exact VLe.refl _|exact VLe.of_eq (by simp[Sto.upd,List.take_zero,List.map_nil,List.append_nil])));done))) ?_ ?_
  ·intro m hm _
   have hs2:=zb Tm.full (List.getElem_mem hm)
   have hc:=Ydf (Xs++(p.terms.take m).map ((fun _ t=>t.near) v)) p.terms[m] v (by omega)
   repeat'(first|refine M.gw ?_|refine M.cv (hc) [0] 0 ?_|fail)
   exact⟨rfl,trivial,(M.W [some 0,some 1,some 2,some 3,some 4] (he:=(by(repeat'(first|exact trivial|refine And.intro ?_ ?_|refine⟨_,U,_,U,_,U,?_⟩|exact VLe.refl _|exact VLe.of_eq (by simp[Sto.upd,yc _ _ _ hm,List.append_assoc])));done)))⟩
  ·intro _
   simp only[List.take_length]
   repeat'(first|refine M.gw ?_|fail)
   refine AW.range p.forms.length (fun m=>True)
    (fun m=>([(3,.ptr 1 0),(4,.ptr 2 0),(5,.ptr 3 0),(6,.ptr 4 0),(50,.s .fm p.forms),(51,.i p.forms.length),(52,.i m)],⟨5,[(0,.var [.bool ((Xs++p.terms.map ((fun(_:Int) (t:Tm)=>t.near) v)++(p.forms.take m).map ((fun(_:Int) (f:Fm)=>f.near) (v+fvK p.kind))).all id)]),(1,.var p.view),(2,.var [.i v,.i y]),(3,.var [.fn (.func 114) [] [.ptr 0 0],.fn (.func 115) [] [.ptr 0 0],.nilf]),(4,.var [.bool true,.bool x2,.i x3,.i x4,.i x5,.i (fvK p.kind),.i (vaK p.kind),.i (hyK p.kind)])]⟩))
    (by omega) (fun m=>rfl) (fun m=>rfl) U trivial (M.W [some 0,some 1,some 2,some 3,some 4] (he:=(by(repeat'(first|exact trivial|refine And.intro ?_ ?_|refine⟨_,U,_,U,_,U,?_⟩|exact VLe.refl _|exact VLe.of_eq (by simp[Sto.upd,List.take_zero,List.map_nil,List.append_nil])));done))) ?_ ?_
   ·intro m hm _
    have hs2:=zb Fm.full (List.getElem_mem hm)
    have hc:=Ybt (Xs++p.terms.map ((fun _ t=>t.near) v)++(p.forms.take m).map ((fun _ f=>f.near) (v+fvK p.kind))) p.forms[m] (v+fvK p.kind) (by omega)
    repeat'(first|refine M.gw ?_|refine M.cv (hc) [0] 0 ?_|fail)
    exact⟨rfl,trivial,(M.W [some 0,some 1,some 2,some 3,some 4] (he:=(by(repeat'(first|exact trivial|refine And.intro ?_ ?_|refine⟨_,U,_,U,_,U,?_⟩|exact VLe.refl _|exact VLe.of_eq (by simp[Sto.upd,yc _ _ _ hm,List.append_assoc])));done)))⟩
   ·intro _
    simp only[List.take_length]
    repeat'(first|refine M.gw ?_|fail)
    refine AW.range p.args.length (fun m=>True)
     (fun m=>([(3,.ptr 1 0),(4,.ptr 2 0),(5,.ptr 3 0),(6,.ptr 4 0),(70,.s .pf p.args),(71,.i p.args.length),(72,.i m)],⟨5,[(0,.var [.bool ((Xs++p.terms.map ((fun(_:Int) (t:Tm)=>t.near) v)++p.forms.map ((fun(_:Int) (f:Fm)=>f.near) (v+fvK p.kind))++((Pf.tfls (fun(_:Int) (t:Tm)=>t.near) (fun(_:Int) (f:Fm)=>f.near) v (vaK p.kind) p.args).take m).flatten).all id)]),(1,.var p.view),(2,.var [.i v,.i y]),(3,.var [.fn (.func 114) [] [.ptr 0 0],.fn (.func 115) [] [.ptr 0 0],.nilf]),(4,.var [.bool true,.bool x2,.i x3,.i x4,.i x5,.i (fvK p.kind),.i (vaK p.kind),.i (hyK p.kind)])]⟩))
     (by omega) (fun m=>rfl) (fun m=>rfl) U trivial (M.W [some 0,some 1,some 2,some 3,some 4] (he:=(by(repeat'(first|exact trivial|refine And.intro ?_ ?_|refine⟨_,U,_,U,_,U,?_⟩|exact VLe.refl _|exact VLe.of_eq (by simp[Sto.upd,List.take_zero,List.flatten_nil,List.append_nil])));done))) ?_ ?_
    ·intro m hm _
     have hs2:=zb Pf.full (List.getElem_mem hm)
     have hb:=hpl m (by omega)
     have hc:=ih p.args[m] (if m+1=p.args.length then v+vaK p.kind else v) (if m+1=p.args.length then y+hyK p.kind else y) (Xs++p.terms.map ((fun(_:Int) (t:Tm)=>t.near) v)++p.forms.map ((fun(_:Int) (f:Fm)=>f.near) (v+fvK p.kind))++((Pf.tfls (fun(_:Int) (t:Tm)=>t.near) (fun(_:Int) (f:Fm)=>f.near) v (vaK p.kind) p.args).take m).flatten) (by omega) (by omega) (by split<;>omega) (by split<;>omega) (hpf _ (List.getElem_mem hm))
     have e3:(Xs++p.terms.map ((fun(_:Int) (t:Tm)=>t.near) v)++p.forms.map ((fun(_:Int) (f:Fm)=>f.near) (v+fvK p.kind))++((Pf.tfls (fun(_:Int) (t:Tm)=>t.near) (fun(_:Int) (f:Fm)=>f.near) v (vaK p.kind) p.args).take m).flatten)++p.args[m].tfl (fun(_:Int) (t:Tm)=>t.near) (fun(_:Int) (f:Fm)=>f.near) (if m+1=p.args.length then v+vaK p.kind else v)=(Xs++p.terms.map ((fun(_:Int) (t:Tm)=>t.near) v)++p.forms.map ((fun(_:Int) (f:Fm)=>f.near) (v+fvK p.kind))++((Pf.tfls (fun(_:Int) (t:Tm)=>t.near) (fun(_:Int) (f:Fm)=>f.near) v (vaK p.kind) p.args).take (m+1)).flatten):=by rw[List.append_assoc,Zdc (fun(_:Int) (t:Tm)=>t.near) (fun(_:Int) (f:Fm)=>f.near) hm]
     rw[e3] at hc
     have ev:(if(m:Int)=(x5:Int)-1 then y+hyK p.kind else y)=(if m+1=p.args.length then y+hyK p.kind else y):=by
      by_cases hx:m+1=p.args.length
      ·rw [if_pos hx,if_pos (by omega)]
      ·rw [if_neg hx,if_neg (by omega)]
     have ev2:(if(m:Int)=(x5:Int)-1 then v+vaK p.kind else v)=(if m+1=p.args.length then v+vaK p.kind else v):=by
      by_cases hx:m+1=p.args.length
      ·rw [if_pos hx,if_pos (by omega)]
      ·rw [if_neg hx,if_neg (by omega)]
     rw[ev,ev2] at hb
     repeat'(first|refine M.gw ?_|refine M.c2 (hb) ?_|refine M.cv (hc) [0] 0 ?_|fail)
     exact⟨rfl,trivial,(M.W [some 0,some 1,some 2,some 3,some 4])⟩
    ·intro _
     rw[hre]
     simp only[Zfr]
     skip
     (exact M.n2 [some 0] (h6:=(by(repeat'(first|exact trivial|refine And.intro ?_ ?_|refine⟨_,U,_,U,_,U,?_⟩|exact VLe.of_eq (by simp[Sto.upd,List.append_assoc])));done)) (h8:=(by simp[zi,V.wk,V.wks,za,Ty.view,Tm.view,List.append_assoc])))
theorem Zzl(p:Pf)(hp:p.full<5000000000)(hs:p.nd):PC E 56 [.agg p.view] (.bool p.nearP):=by
 have hc:=Ybx _ p 0 0 [] (Nat.le_refl _) (by omega) (by omega) (by omega) hs
 rw[List.nil_append] at hc
 unfold Pf.nearP
 generalize (p.tfl (fun(_:Int) (t:Tm)=>t.near) (fun(_:Int) (f:Fm)=>f.near) 0).all id=b at*
 refine M.F Tryz.func56 ?_
 repeat'(first|refine M.gw ?_|refine M.cv (hc) [1] 0 ?_|fail)
 simp[zi,V.wk,V.wks,za,Ty.view,Tm.view]
theorem Zxu(n:Int)(b:Bool)(sz ti k:Int)(hs:0≤sz∧sz≤4096)(ht:0≤ti∧ti≤4096)(hk:1≤k∧k≤4096)(hn:0≤n∧n≤17000000000000000):
 AC E 61 [.ptr 0 0,.i sz,.i ti,.i k,.i 4096] ⟨1,[(0,.var [.i n,.bool b])]⟩ (.tup []) ⟨1,[(0,.var [.i (n+ti*(k-1)),.bool (b||decide (sz+ti*(k-1)>4096))])]⟩:=by
 have h3:0≤ti*(k-1):=Int.mul_nonneg ht.1 (by omega)
 have h4:ti*(k-1)≤4096*4095:=Int.mul_le_mul ht.2 (by omega) (by omega) (by omega)
 have hm': -9223372036854775808≤ti*(k-1)∧ti*(k-1)≤9223372036854775807:=by omega
 cases b
 all_goals
  refine M.F Tryz.func61 ?_
  repeat'(first|refine M.gw ?_|fail)
  (exact M.n2 [some 0] (h8:=(by simp[zi,V.wk,V.wks,za,Ty.view,Tm.view,Bool.true_or,Bool.false_or])))
theorem Ycl(a k n0:Int)(ha:0≤a∧a≤4096)(hk:1≤k∧k≤4096)(hn0:0≤n0∧n0≤1000000)(Xs:List (Int×Int))(t:Tm)(bl:Int)(he:t.err=0)(hb:0≤bl∧bl<100000000000)(hix:∀p∈t.vars 0,0≤p.1∧p.1<1099511627776)(hg:GrOk (Xs++[grG a bl t])):
 AC E 59 [.agg t.view,.i bl,.ptr 0 0,.ptr 1 0,.ptr 2 0] ⟨4,[(0,.var [.ptr 3 0]),(1,.var [.i a]),(2,.var [.i k]),(3,.var [.i (grN n0 k Xs),.bool (grB k Xs)])]⟩ (.tup [])
  ⟨4,[(0,.var [.ptr 3 0]),(1,.var [.i a]),(2,.var [.i k]),(3,.var [.i (grN n0 k (Xs++[grG a bl t])),.bool (grB k (Xs++[grG a bl t]))])]⟩:=by
 have hf:=z8 he
 have h1:=Zd0 t (by omega)
 rw[he,show t.num=t.size by unfold Tm.num;rw[if_pos he]] at h1
 have h2:=Zte t (a+bl) (by omega) hix
 have hx:=(hg.1 (grG a bl t) (by simp))
 have hp:=GrOk.pre (List.prefix_append Xs [grG a bl t]) hg
 have hbd:=Zq1 (n:=n0) hk hn0 hp
 have hl:=hp.2
 rw[Zob,Zns]
 simp only[grG] at hx ⊢
 have h3:=Zxu (grN n0 k Xs) (grB k Xs) t.size (cnt (a+bl) (t.vars 0)) k hx.1 hx.2 hk (by omega)
 obtain⟨N0,e1⟩:∃x,x=grN n0 k Xs:=⟨_,rfl⟩
 obtain⟨B0,e2⟩:∃x,x=grB k Xs:=⟨_,rfl⟩
 rw[←e1,←e2] at h3
 rw[←e1,←e2]
 clear e1 e2 hbd hp hg hx hl
 refine M.F Tryz.func59 ?_
 repeat'(first|refine M.gw ?_|refine M.c2 (h1) ?_|refine M.c2 (h2) ?_|refine M.cb (h3) [3] 0 ?_|fail)
 (exact M.n2 [some 0,some 1,some 2,some 3] (h8:=(by simp[zi,V.wk,V.wks,za,Ty.view,Tm.view,h1])))
theorem Ycn(a k n0:Int)(ha:0≤a∧a≤4096)(hk:1≤k∧k≤4096)(hn0:0≤n0∧n0≤1000000)(Xs:List (Int×Int))(t:Fm)(bl:Int)(he:t.err=0)(hb:0≤bl∧bl<100000000000)(hix:∀p∈t.tms 0,∀q∈p.1.vars 0,0≤q.1∧q.1<1099511627776)(hg:GrOk (Xs++[grH a bl t])):
 AC E 63 [.agg t.view,.i bl,.ptr 0 0,.ptr 1 0,.ptr 2 0] ⟨4,[(0,.var [.ptr 3 0]),(1,.var [.i a]),(2,.var [.i k]),(3,.var [.i (grN n0 k Xs),.bool (grB k Xs)])]⟩ (.tup [])
  ⟨4,[(0,.var [.ptr 3 0]),(1,.var [.i a]),(2,.var [.i k]),(3,.var [.i (grN n0 k (Xs++[grH a bl t])),.bool (grB k (Xs++[grH a bl t]))])]⟩:=by
 have hf:=yr he
 have h1:=Zgo t (by omega)
 rw[he,show t.num=t.size by unfold Fm.num;rw[if_pos he]] at h1
 have h2:=Zqp t (a+bl) (by omega) (by omega) hix
 have hx:=(hg.1 (grH a bl t) (by simp))
 have hp:=GrOk.pre (List.prefix_append Xs [grH a bl t]) hg
 have hbd:=Zq1 (n:=n0) hk hn0 hp
 have hl:=hp.2
 rw[Zob,Zns]
 simp only[grH] at hx ⊢
 have h3:=Zxu (grN n0 k Xs) (grB k Xs) t.size (wu (a+bl) (t.tms 0)) k hx.1 hx.2 hk (by omega)
 obtain⟨N0,e1⟩:∃x,x=grN n0 k Xs:=⟨_,rfl⟩
 obtain⟨B0,e2⟩:∃x,x=grB k Xs:=⟨_,rfl⟩
 rw[←e1,←e2] at h3
 rw[←e1,←e2]
 clear e1 e2 hbd hp hg hx hl
 refine M.F Tryz.func63 ?_
 repeat'(first|refine M.gw ?_|refine M.c2 (h1) ?_|refine M.c2 (h2) ?_|refine M.cb (h3) [3] 0 ?_|fail)
 (exact M.n2 [some 0,some 1,some 2,some 3] (h8:=(by simp[zi,V.wk,V.wks,za,Ty.view,Tm.view,h1])))
theorem Yc6(a k n0:Int)(ha:0≤a∧a≤4096)(hk:1≤k∧k≤4096)(hn0:0≤n0∧n0≤1000000):∀(n:Nat) (p:Pf) (v y:Int) (Xs:List (Int×Int)),p.full≤n→n<10000000000→(0≤v∧v+2*n≤50000000000)→(0≤y∧y+2*n≤50000000000)→p.nd→p.ix 1099511627776→p.shape=true→p.small=true→GrOk (Xs++p.tfl (grG a) (grH a) v)→
 AC E 58 [.agg p.view,.agg [.i v,.i y],.agg [.fn (.func 59) [] [.ptr 0 0,.ptr 1 0,.ptr 2 0],.fn (.func 63) [] [.ptr 0 0,.ptr 1 0,.ptr 2 0],.nilf]] ⟨4,[(0,.var [.ptr 3 0]),(1,.var [.i a]),(2,.var [.i k]),(3,.var [.i (grN n0 k Xs),.bool (grB k Xs)])]⟩ (.tup []) ⟨4,[(0,.var [.ptr 3 0]),(1,.var [.i a]),(2,.var [.i k]),(3,.var [.i (grN n0 k (Xs++p.tfl (grG a) (grH a) v)),.bool (grB k (Xs++p.tfl (grG a) (grH a) v))])]⟩:=by
 intro n
 induction n with
 |zero=>intro p v y Xs hz;have:=p.full_pos;omega
 |succ n ih=>
 intro p v y Xs hz hn hv hh hs hix hsh hsm hg
 obtain⟨i1,i2,i3⟩:=(Pf.ix_iff _ p).1 hix
 obtain⟨s1,s2,s3⟩:=Zc2 hsm
 obtain⟨_,s4,s5,s6⟩:=yl hsh
 have te:∀t∈p.terms,t.err=0:=fun t h=>(Tm.err_iff t).2 ⟨s4 t h,s1 t h⟩
 have fe:∀t∈p.forms,t.err=0:=fun t h=>(Fm.err_iff t).2 ⟨s5 t h,s2 t h⟩
 have hg0:=hg
 rw[p.tfl_eq (grG a) (grH a) v] at hg
 have hre:=p.tfl_eq (grG a) (grH a) v
 have hsz':=p.full_eq
 have hlen:=zc Pf.full Pf.full_pos p.args
 have hlen1:=zc Fm.full Fm.full_pos p.forms
 have hlen2:=zc Tm.full Tm.full_pos p.terms
 have hru:=Zck p.kind
 obtain⟨⟨nd,n1,n4⟩,hpf⟩:=(Pf.nd_iff p).1 hs
 have hal:p.args.length≤2:=by
  rw[n4]
  unfold ndP at n1
  repeat(split at n1;· cases n1;decide)
  cases n1
 have hpl:=fun(m:Nat) (hm:m≤1000000)=>vu p.kind v y nd n1 m hm (by omega) (by omega)
 have e2:ruC p.kind=[.bool nd.index,.bool nd.typ,.i nd.terms,.i nd.forms,.i nd.args,.i (fvK p.kind),.i (vaK p.kind),.i (hyK p.kind)]:=by unfold ruC;rw[n1]
 have b1:0≤vaK p.kind∧vaK p.kind≤2:=by unfold vaK;split<;>(try split)<;>omega
 have b2:0≤hyK p.kind∧hyK p.kind≤1:=by unfold hyK;split<;>omega
 have b3:0≤fvK p.kind∧fvK p.kind≤1:=by unfold fvK;split<;>omega
 rw[n1] at hru
 simp only[Option.isSome_some] at hru
 rw[e2] at hru
 simp only[e2] at hpl
 clear n1 e2
 obtain⟨x3,x4,x5,ix,x2⟩:=nd
 simp only at n4 hru hpl
 cases ix
 ·refine M.F Tryz.func58 ?_
  repeat'(first|refine M.gw ?_|refine M.c2 (hru) ?_|fail)
  refine AW.range p.terms.length (fun m=>True)
   (fun m=>([(3,.ptr 4 0),(4,.ptr 5 0),(5,.ptr 6 0),(6,.ptr 7 0),(33,.s .tm p.terms),(34,.i p.terms.length),(35,.i m)],⟨8,[(0,.var [.ptr 3 0]),(1,.var [.i a]),(2,.var [.i k]),(3,.var [.i (grN n0 k (Xs++(p.terms.take m).map ((grG a) v))),.bool (grB k (Xs++(p.terms.take m).map ((grG a) v)))]),(4,.var p.view),(5,.var [.i v,.i y]),(6,.var [.fn (.func 59) [] [.ptr 0 0,.ptr 1 0,.ptr 2 0],.fn (.func 63) [] [.ptr 0 0,.ptr 1 0,.ptr 2 0],.nilf]),(7,.var [.bool false,.bool x2,.i x3,.i x4,.i x5,.i (fvK p.kind),.i (vaK p.kind),.i (hyK p.kind)])]⟩))
   (by omega) (fun m=>rfl) (fun m=>rfl) U trivial (M.W [some 0,some 1,some 2,some 3,some 4,some 5,some 6,some 7] (he:=(by(repeat'(first|exact trivial|refine And.intro ?_ ?_|refine⟨_,U,_,U,_,U,?_⟩|exact VLe.refl _|exact VLe.of_eq (by simp[Sto.upd,List.take_zero,List.map_nil,List.append_nil])));done))) ?_ ?_
  ·intro m hm _
   have hs2:=zb Tm.full (List.getElem_mem hm)
   have hc:=Ycl a k n0 ha hk hn0 (Xs++(p.terms.take m).map ((grG a) v)) p.terms[m] v (te _ (List.getElem_mem hm)) (by omega) (i1 _ (List.getElem_mem hm)) (GrOk.pre (by have:=Zjb Xs (p.forms.map ((grH a) (v+fvK p.kind))++(Pf.tfls (grG a) (grH a) v (vaK p.kind) p.args).flatten) p.terms ((grG a) v) m hm;simpa only[List.append_assoc] using this) hg)
   repeat'(first|refine M.gw ?_|refine M.cv (hc) [0,1,2,3] 0 ?_|fail)
   exact⟨rfl,trivial,(M.W [some 0,some 1,some 2,some 3,some 4,some 5,some 6,some 7] (he:=(by(repeat'(first|exact trivial|refine And.intro ?_ ?_|refine⟨_,U,_,U,_,U,?_⟩|exact VLe.refl _|exact VLe.of_eq (by simp[Sto.upd,yc _ _ _ hm,List.append_assoc])));done)))⟩
  ·intro _
   simp only[List.take_length]
   repeat'(first|refine M.gw ?_|fail)
   refine AW.range p.forms.length (fun m=>True)
    (fun m=>([(3,.ptr 4 0),(4,.ptr 5 0),(5,.ptr 6 0),(6,.ptr 7 0),(50,.s .fm p.forms),(51,.i p.forms.length),(52,.i m)],⟨8,[(0,.var [.ptr 3 0]),(1,.var [.i a]),(2,.var [.i k]),(3,.var [.i (grN n0 k (Xs++p.terms.map ((grG a) v)++(p.forms.take m).map ((grH a) (v+fvK p.kind)))),.bool (grB k (Xs++p.terms.map ((grG a) v)++(p.forms.take m).map ((grH a) (v+fvK p.kind))))]),(4,.var p.view),(5,.var [.i v,.i y]),(6,.var [.fn (.func 59) [] [.ptr 0 0,.ptr 1 0,.ptr 2 0],.fn (.func 63) [] [.ptr 0 0,.ptr 1 0,.ptr 2 0],.nilf]),(7,.var [.bool false,.bool x2,.i x3,.i x4,.i x5,.i (fvK p.kind),.i (vaK p.kind),.i (hyK p.kind)])]⟩))
    (by omega) (fun m=>rfl) (fun m=>rfl) U trivial (M.W [some 0,some 1,some 2,some 3,some 4,some 5,some 6,some 7] (he:=(by(repeat'(first|exact trivial|refine And.intro ?_ ?_|refine⟨_,U,_,U,_,U,?_⟩|exact VLe.refl _|exact VLe.of_eq (by simp[Sto.upd,List.take_zero,List.map_nil,List.append_nil])));done))) ?_ ?_
   ·intro m hm _
    have hs2:=zb Fm.full (List.getElem_mem hm)
    have hc:=Ycn a k n0 ha hk hn0 (Xs++p.terms.map ((grG a) v)++(p.forms.take m).map ((grH a) (v+fvK p.kind))) p.forms[m] (v+fvK p.kind) (fe _ (List.getElem_mem hm)) (by omega) (i2 _ (List.getElem_mem hm)) (GrOk.pre (by have:=Zjb (Xs++p.terms.map ((grG a) v)) ((Pf.tfls (grG a) (grH a) v (vaK p.kind) p.args).flatten) p.forms ((grH a) (v+fvK p.kind)) m hm;simpa only[List.append_assoc] using this) hg)
    repeat'(first|refine M.gw ?_|refine M.cv (hc) [0,1,2,3] 0 ?_|fail)
    exact⟨rfl,trivial,(M.W [some 0,some 1,some 2,some 3,some 4,some 5,some 6,some 7] (he:=(by(repeat'(first|exact trivial|refine And.intro ?_ ?_|refine⟨_,U,_,U,_,U,?_⟩|exact VLe.refl _|exact VLe.of_eq (by simp[Sto.upd,yc _ _ _ hm,List.append_assoc])));done)))⟩
   ·intro _
    simp only[List.take_length]
    repeat'(first|refine M.gw ?_|fail)
    refine AW.range p.args.length (fun m=>True)
     (fun m=>([(3,.ptr 4 0),(4,.ptr 5 0),(5,.ptr 6 0),(6,.ptr 7 0),(70,.s .pf p.args),(71,.i p.args.length),(72,.i m)],⟨8,[(0,.var [.ptr 3 0]),(1,.var [.i a]),(2,.var [.i k]),(3,.var [.i (grN n0 k (Xs++p.terms.map ((grG a) v)++p.forms.map ((grH a) (v+fvK p.kind))++((Pf.tfls (grG a) (grH a) v (vaK p.kind) p.args).take m).flatten)),.bool (grB k (Xs++p.terms.map ((grG a) v)++p.forms.map ((grH a) (v+fvK p.kind))++((Pf.tfls (grG a) (grH a) v (vaK p.kind) p.args).take m).flatten))]),(4,.var p.view),(5,.var [.i v,.i y]),(6,.var [.fn (.func 59) [] [.ptr 0 0,.ptr 1 0,.ptr 2 0],.fn (.func 63) [] [.ptr 0 0,.ptr 1 0,.ptr 2 0],.nilf]),(7,.var [.bool false,.bool x2,.i x3,.i x4,.i x5,.i (fvK p.kind),.i (vaK p.kind),.i (hyK p.kind)])]⟩))
     (by omega) (fun m=>rfl) (fun m=>rfl) U trivial (M.W [some 0,some 1,some 2,some 3,some 4,some 5,some 6,some 7] (he:=(by(repeat'(first|exact trivial|refine And.intro ?_ ?_|refine⟨_,U,_,U,_,U,?_⟩|exact VLe.refl _|exact VLe.of_eq (by simp[Sto.upd,List.take_zero,List.flatten_nil,List.append_nil])));done))) ?_ ?_
    ·intro m hm _
     have hs2:=zb Pf.full (List.getElem_mem hm)
     have hb:=hpl m (by omega)
     have hc:=ih p.args[m] (if m+1=p.args.length then v+vaK p.kind else v) (if m+1=p.args.length then y+hyK p.kind else y) (Xs++p.terms.map ((grG a) v)++p.forms.map ((grH a) (v+fvK p.kind))++((Pf.tfls (grG a) (grH a) v (vaK p.kind) p.args).take m).flatten) (by omega) (by omega) (by split<;>omega) (by split<;>omega) (hpf _ (List.getElem_mem hm)) (i3 _ (List.getElem_mem hm)) (s6 _ (List.getElem_mem hm)) (s3 _ (List.getElem_mem hm)) (GrOk.pre (by have:=Znz (Xs++p.terms.map ((grG a) v)++p.forms.map ((grH a) (v+fvK p.kind))) (Pf.tfls (grG a) (grH a) v (vaK p.kind) p.args) m (by rw[ug];exact hm);rw[Zal _ _ _ _ _ _ hm] at this;simpa only[List.append_assoc] using this) hg)
     have e3:(Xs++p.terms.map ((grG a) v)++p.forms.map ((grH a) (v+fvK p.kind))++((Pf.tfls (grG a) (grH a) v (vaK p.kind) p.args).take m).flatten)++p.args[m].tfl (grG a) (grH a) (if m+1=p.args.length then v+vaK p.kind else v)=(Xs++p.terms.map ((grG a) v)++p.forms.map ((grH a) (v+fvK p.kind))++((Pf.tfls (grG a) (grH a) v (vaK p.kind) p.args).take (m+1)).flatten):=by rw[List.append_assoc,Zdc (grG a) (grH a) hm]
     rw[e3] at hc
     have ev:(if(m:Int)=(x5:Int)-1 then y+hyK p.kind else y)=(if m+1=p.args.length then y+hyK p.kind else y):=by
      by_cases hx:m+1=p.args.length
      ·rw [if_pos hx,if_pos (by omega)]
      ·rw [if_neg hx,if_neg (by omega)]
     have ev2:(if(m:Int)=(x5:Int)-1 then v+vaK p.kind else v)=(if m+1=p.args.length then v+vaK p.kind else v):=by
      by_cases hx:m+1=p.args.length
      ·rw [if_pos hx,if_pos (by omega)]
      ·rw [if_neg hx,if_neg (by omega)]
     rw[ev,ev2] at hb
     repeat'(first|refine M.gw ?_|refine M.c2 (hb) ?_|refine M.cv (hc) [0,1,2,3] 0 ?_|fail)
     exact⟨rfl,trivial,(M.W [some 0,some 1,some 2,some 3,some 4,some 5,some 6,some 7])⟩
    ·intro _
     rw[hre]
     simp only[Zfr]
     skip
     (exact M.n2 [some 0,some 1,some 2,some 3] (h6:=(by(repeat'(first|exact trivial|refine And.intro ?_ ?_|refine⟨_,U,_,U,_,U,?_⟩|exact VLe.refl _|exact VLe.of_eq (by simp[Sto.upd,List.append_assoc])));done)) (h8:=(by simp[zi,V.wk,V.wks,za,Ty.view,Tm.view,List.append_assoc])))
 ·refine M.F Tryz.func58 ?_
  repeat'(first|refine M.gw ?_|refine M.c2 (hru) ?_|fail)
  refine AW.range p.terms.length (fun m=>True)
   (fun m=>([(3,.ptr 4 0),(4,.ptr 5 0),(5,.ptr 6 0),(6,.ptr 7 0),(33,.s .tm p.terms),(34,.i p.terms.length),(35,.i m)],⟨8,[(0,.var [.ptr 3 0]),(1,.var [.i a]),(2,.var [.i k]),(3,.var [.i (grN n0 k (Xs++(p.terms.take m).map ((grG a) v))),.bool (grB k (Xs++(p.terms.take m).map ((grG a) v)))]),(4,.var p.view),(5,.var [.i v,.i y]),(6,.var [.fn (.func 59) [] [.ptr 0 0,.ptr 1 0,.ptr 2 0],.fn (.func 63) [] [.ptr 0 0,.ptr 1 0,.ptr 2 0],.nilf]),(7,.var [.bool true,.bool x2,.i x3,.i x4,.i x5,.i (fvK p.kind),.i (vaK p.kind),.i (hyK p.kind)])]⟩))
   (by omega) (fun m=>rfl) (fun m=>rfl) U trivial (M.W [some 0,some 1,some 2,some 3,some 4,some 5,some 6,some 7] (he:=(by(repeat'(first|exact trivial|refine And.intro ?_ ?_|refine⟨_,U,_,U,_,U,?_⟩|exact VLe.refl _|exact VLe.of_eq (by simp[Sto.upd,List.take_zero,List.map_nil,List.append_nil])));done))) ?_ ?_
  ·intro m hm _
   have hs2:=zb Tm.full (List.getElem_mem hm)
   have hc:=Ycl a k n0 ha hk hn0 (Xs++(p.terms.take m).map ((grG a) v)) p.terms[m] v (te _ (List.getElem_mem hm)) (by omega) (i1 _ (List.getElem_mem hm)) (GrOk.pre (by have:=Zjb Xs (p.forms.map ((grH a) (v+fvK p.kind))++(Pf.tfls (grG a) (grH a) v (vaK p.kind) p.args).flatten) p.terms ((grG a) v) m hm;simpa only[List.append_assoc] using this) hg)
   repeat'(first|refine M.gw ?_|refine M.cv (hc) [0,1,2,3] 0 ?_|fail)
   exact⟨rfl,trivial,(M.W [some 0,some 1,some 2,some 3,some 4,some 5,some 6,some 7] (he:=(by(repeat'(first|exact trivial|refine And.intro ?_ ?_|refine⟨_,U,_,U,_,U,?_⟩|exact VLe.refl _|exact VLe.of_eq (by simp[Sto.upd,yc _ _ _ hm,List.append_assoc])));done)))⟩
  ·intro _
   simp only[List.take_length]
   repeat'(first|refine M.gw ?_|fail)
   refine AW.range p.forms.length (fun m=>True)
    (fun m=>([(3,.ptr 4 0),(4,.ptr 5 0),(5,.ptr 6 0),(6,.ptr 7 0),(50,.s .fm p.forms),(51,.i p.forms.length),(52,.i m)],⟨8,[(0,.var [.ptr 3 0]),(1,.var [.i a]),(2,.var [.i k]),(3,.var [.i (grN n0 k (Xs++p.terms.map ((grG a) v)++(p.forms.take m).map ((grH a) (v+fvK p.kind)))),.bool (grB k (Xs++p.terms.map ((grG a) v)++(p.forms.take m).map ((grH a) (v+fvK p.kind))))]),(4,.var p.view),(5,.var [.i v,.i y]),(6,.var [.fn (.func 59) [] [.ptr 0 0,.ptr 1 0,.ptr 2 0],.fn (.func 63) [] [.ptr 0 0,.ptr 1 0,.ptr 2 0],.nilf]),(7,.var [.bool true,.bool x2,.i x3,.i x4,.i x5,.i (fvK p.kind),.i (vaK p.kind),.i (hyK p.kind)])]⟩))
    (by omega) (fun m=>rfl) (fun m=>rfl) U trivial (M.W [some 0,some 1,some 2,some 3,some 4,some 5,some 6,some 7] (he:=(by(repeat'(first|exact trivial|refine And.intro ?_ ?_|refine⟨_,U,_,U,_,U,?_⟩|exact VLe.refl _|exact VLe.of_eq (by simp[Sto.upd,List.take_zero,List.map_nil,List.append_nil])));done))) ?_ ?_
   ·intro m hm _
    have hs2:=zb Fm.full (List.getElem_mem hm)
    have hc:=Ycn a k n0 ha hk hn0 (Xs++p.terms.map ((grG a) v)++(p.forms.take m).map ((grH a) (v+fvK p.kind))) p.forms[m] (v+fvK p.kind) (fe _ (List.getElem_mem hm)) (by omega) (i2 _ (List.getElem_mem hm)) (GrOk.pre (by have:=Zjb (Xs++p.terms.map ((grG a) v)) ((Pf.tfls (grG a) (grH a) v (vaK p.kind) p.args).flatten) p.forms ((grH a) (v+fvK p.kind)) m hm;simpa only[List.append_assoc] using this) hg)
    repeat'(first|refine M.gw ?_|refine M.cv (hc) [0,1,2,3] 0 ?_|fail)
    exact⟨rfl,trivial,(M.W [some 0,some 1,some 2,some 3,some 4,some 5,some 6,some 7] (he:=(by(repeat'(first|exact trivial|refine And.intro ?_ ?_|refine⟨_,U,_,U,_,U,?_⟩|exact VLe.refl _|exact VLe.of_eq (by simp[Sto.upd,yc _ _ _ hm,List.append_assoc])));done)))⟩
   ·intro _
    simp only[List.take_length]
    repeat'(first|refine M.gw ?_|fail)
    refine AW.range p.args.length (fun m=>True)
     (fun m=>([(3,.ptr 4 0),(4,.ptr 5 0),(5,.ptr 6 0),(6,.ptr 7 0),(70,.s .pf p.args),(71,.i p.args.length),(72,.i m)],⟨8,[(0,.var [.ptr 3 0]),(1,.var [.i a]),(2,.var [.i k]),(3,.var [.i (grN n0 k (Xs++p.terms.map ((grG a) v)++p.forms.map ((grH a) (v+fvK p.kind))++((Pf.tfls (grG a) (grH a) v (vaK p.kind) p.args).take m).flatten)),.bool (grB k (Xs++p.terms.map ((grG a) v)++p.forms.map ((grH a) (v+fvK p.kind))++((Pf.tfls (grG a) (grH a) v (vaK p.kind) p.args).take m).flatten))]),(4,.var p.view),(5,.var [.i v,.i y]),(6,.var [.fn (.func 59) [] [.ptr 0 0,.ptr 1 0,.ptr 2 0],.fn (.func 63) [] [.ptr 0 0,.ptr 1 0,.ptr 2 0],.nilf]),(7,.var [.bool true,.bool x2,.i x3,.i x4,.i x5,.i (fvK p.kind),.i (vaK p.kind),.i (hyK p.kind)])]⟩))
     (by omega) (fun m=>rfl) (fun m=>rfl) U trivial (M.W [some 0,some 1,some 2,some 3,some 4,some 5,some 6,some 7] (he:=(by(repeat'(first|exact trivial|refine And.intro ?_ ?_|refine⟨_,U,_,U,_,U,?_⟩|exact VLe.refl _|exact VLe.of_eq (by simp[Sto.upd,List.take_zero,List.flatten_nil,List.append_nil])));done))) ?_ ?_
    ·intro m hm _
     have hs2:=zb Pf.full (List.getElem_mem hm)
     have hb:=hpl m (by omega)
     have hc:=ih p.args[m] (if m+1=p.args.length then v+vaK p.kind else v) (if m+1=p.args.length then y+hyK p.kind else y) (Xs++p.terms.map ((grG a) v)++p.forms.map ((grH a) (v+fvK p.kind))++((Pf.tfls (grG a) (grH a) v (vaK p.kind) p.args).take m).flatten) (by omega) (by omega) (by split<;>omega) (by split<;>omega) (hpf _ (List.getElem_mem hm)) (i3 _ (List.getElem_mem hm)) (s6 _ (List.getElem_mem hm)) (s3 _ (List.getElem_mem hm)) (GrOk.pre (by have:=Znz (Xs++p.terms.map ((grG a) v)++p.forms.map ((grH a) (v+fvK p.kind))) (Pf.tfls (grG a) (grH a) v (vaK p.kind) p.args) m (by rw[ug];exact hm);rw[Zal _ _ _ _ _ _ hm] at this;simpa only[List.append_assoc] using this) hg)
     have e3:(Xs++p.terms.map ((grG a) v)++p.forms.map ((grH a) (v+fvK p.kind))++((Pf.tfls (grG a) (grH a) v (vaK p.kind) p.args).take m).flatten)++p.args[m].tfl (grG a) (grH a) (if m+1=p.args.length then v+vaK p.kind else v)=(Xs++p.terms.map ((grG a) v)++p.forms.map ((grH a) (v+fvK p.kind))++((Pf.tfls (grG a) (grH a) v (vaK p.kind) p.args).take (m+1)).flatten):=by rw[List.append_assoc,Zdc (grG a) (grH a) hm]
     rw[e3] at hc
     have ev:(if(m:Int)=(x5:Int)-1 then y+hyK p.kind else y)=(if m+1=p.args.length then y+hyK p.kind else y):=by
      by_cases hx:m+1=p.args.length
      ·rw [if_pos hx,if_pos (by omega)]
      ·rw [if_neg hx,if_neg (by omega)]
     have ev2:(if(m:Int)=(x5:Int)-1 then v+vaK p.kind else v)=(if m+1=p.args.length then v+vaK p.kind else v):=by
      by_cases hx:m+1=p.args.length
      ·rw [if_pos hx,if_pos (by omega)]
      ·rw [if_neg hx,if_neg (by omega)]
     rw[ev,ev2] at hb
     repeat'(first|refine M.gw ?_|refine M.c2 (hb) ?_|refine M.cv (hc) [0,1,2,3] 0 ?_|fail)
     exact⟨rfl,trivial,(M.W [some 0,some 1,some 2,some 3,some 4,some 5,some 6,some 7])⟩
    ·intro _
     rw[hre]
     simp only[Zfr]
     skip
     (exact M.n2 [some 0,some 1,some 2,some 3] (h6:=(by(repeat'(first|exact trivial|refine And.intro ?_ ?_|refine⟨_,U,_,U,_,U,?_⟩|exact VLe.refl _|exact VLe.of_eq (by simp[Sto.upd,List.append_assoc])));done)) (h8:=(by simp[zi,V.wk,V.wks,za,Ty.view,Tm.view,List.append_assoc])))
theorem Zql(n m:Int):PC E 54 [.i n,.i m] (.bool (decide (0≤n∧n≤m))):=by
 by_cases h1:0≤n
 ·by_cases h2:n≤m
  ·rw [decide_eq_true ⟨h1,h2⟩]
   refine M.F Tryz.func54 ?_
   repeat'(first|refine M.gw ?_|((fail_if_success refine AX.wt U ?_);refine AX.gs U U (fun _=>trivial) (fun h=> ?_) (fun h=> ?_))|fail)
   all_goals first
    |(simp[zi,V.wk];omega)
    |(exfalso;simp at*;omega)
    |(simp[zi,V.wk,h1,h2];done)
    |trace_state
  ·rw [decide_eq_false (by omega)]
   refine M.F Tryz.func54 ?_
   repeat'(first|refine M.gw ?_|((fail_if_success refine AX.wt U ?_);refine AX.gs U U (fun _=>trivial) (fun h=> ?_) (fun h=> ?_))|fail)
   all_goals first
    |(exfalso;simp at*;omega)
    |(simp[zi,V.wk,h1,h2];done)
    |(simp[zi,V.wk];omega)
    |trace_state
 ·rw [decide_eq_false (by omega)]
  refine M.F Tryz.func54 ?_
  repeat'(first|refine M.gw ?_|((fail_if_success refine AX.wt U ?_);refine AX.gs U U (fun _=>trivial) (fun h=> ?_) (fun h=> ?_))|fail)
  all_goals first
   |(exfalso;simp at*;omega)
   |(simp[zi,V.wk,h1];done)
   |(simp[zi,V.wk];omega)
   |trace_state
theorem Zmh(p:Pf)(hp:p.full<274877906944):PC E 19 [.agg p.view] (.tup [.i p.num,.i p.err]):=by
 have h:=Zky p hp
 refine M.F Tryz.func19 ?_
 repeat'(first|refine M.gw ?_|refine M.c2 (h) ?_|fail)
 rfl
theorem Zm0{p:Pf}(h:p.err=0):p.shape=true∧p.small=true∧p.size≤16384∧p.nd∧p.full≤1064960∧p.num=p.size:=by
 have h1:=(Pf.err_iff p).1 h
 have h2:=Zjj p h1.1
 exact⟨h1.1,h1.2.1,h1.2.2,Yde p h1.1,by omega,by unfold Pf.num;rw[if_pos h]⟩
theorem Yb5(p:Pf)(a:Int)(s:Tm)(hp:p.full<274877906944)(hs:s.full<274877906944):PC E 12 [.agg p.view,.i a,.agg s.view] (.tup [.agg (if Zbu p a s=0 then p.pt a s 0 else Zuq).view,.i (Zbu p a s)]):=by
 have h1:=Zmh p hp
 by_cases he:p.err=0
 case neg=>
  rw[Zr1 he,if_neg he]
  refine M.F Tryz.func12 ?_
  repeat'(first|refine M.go ?_|refine M.c2 (h1) ?_|((with_reducible refine D.aw ?_);(fail_if_success with_reducible refine D.stopR (id:=4) ?_);(fail_if_success with_reducible refine D.stopS (id:=4) ?_);first|refine M.ga ?_|refine AW.condS U (fun h=> ?_) (fun h=> ?_))|refine M.gk ?_|fail)
  all_goals first
   |rfl
   |(exfalso;simp at h;exact he h)
   |trace_state
 obtain⟨g1,g2,g3,g4,g5,g6⟩:=Zm0 he
 rw[he,g6] at h1
 have h2:=Zql a 4096
 by_cases ha:0≤a∧a≤4096
 case neg=>
  rw[decide_eq_false ha] at h2
  rw[Yaf he ha,if_neg (by decide)]
  refine M.F Tryz.func12 ?_
  repeat'(first|refine M.gw ?_|refine M.c2 (h1) ?_|refine M.c2 (h2) ?_|fail)
  rfl
 rw[decide_eq_true ha] at h2
 have h3:=Yc2 s (by omega)
 by_cases es:s.err=0
 case neg=>
  rw[Zzu he ha es,if_neg es]
  refine M.F Tryz.func12 ?_
  repeat'(first|refine M.go ?_|refine M.c2 (h1) ?_|refine M.c2 (h2) ?_|refine M.c2 (h3) ?_|((with_reducible refine D.aw ?_);(fail_if_success with_reducible refine D.stopR (id:=9) ?_);(fail_if_success with_reducible refine D.stopS (id:=9) ?_);first|refine M.ga ?_|refine AW.condS U (fun h=> ?_) (fun h=> ?_))|refine M.gk ?_|fail)
  all_goals first
   |rfl
   |(exfalso;simp at h;exact es h)
   |trace_state
 have s1:=(Tm.err_iff s).1 es
 have s2:=z8 es
 rw[es,show s.num=s.size by unfold Tm.num;rw[if_pos es]] at h3
 have h4:=Zzl p (by omega) g4
 have h5:=Zsn s (by omega)
 by_cases hn:p.nearP=false∨s.near=false
 ·rw [Zyy he ha es hn,if_neg (by decide)]
  cases hb:p.nearP with
  |false=>
   rw[hb] at h4
   refine M.F Tryz.func12 ?_
   repeat'(first|refine M.gw ?_|refine M.c2 (h1) ?_|refine M.c2 (h2) ?_|refine M.c2 (h3) ?_|refine M.c2 (h4) ?_|fail)
   rfl
  |true=>
   rw[hb] at h4
   rw[hn.resolve_left (by simp[hb])] at h5
   refine M.F Tryz.func12 ?_
   repeat'(first|refine M.gw ?_|refine M.c2 (h1) ?_|refine M.c2 (h2) ?_|refine M.c2 (h3) ?_|refine M.c2 (h4) ?_|refine M.c2 (h5) ?_|fail)
   rfl
 rw[Ztq he ha es hn]
 have n1:p.nearP=true:=by cases h:p.nearP with|true=>rfl|false=>exact absurd (.inl h) hn
 have n2:s.near=true:=by cases h:s.near with|true=>rfl|false=>exact absurd (.inr h) hn
 rw[n1] at h4
 rw[n2] at h5
 have hix:=Zwv p g1 g2 0 n1
 have sp:=s.size_pos
 have hG:=Ye7 a p g2 (by omega) 0
 have h6:=Yc6 a s.size p.size ha (by omega) (by have:=p.size_pos;omega) _ p 0 0 [] (Nat.le_refl _) (by omega) (by omega) (by omega) g4 (Zzd hix (by omega)) g1 g2 (by rw[List.nil_append];exact hG)
 rw[List.nil_append] at h6
 have hbd:=Zq1 (n:=p.size) (k:=s.size) (by omega) (by omega) hG
 have h7:=Ycx p a s (by omega) (by omega) (Ztn es n2) (by omega) g4 hix
 unfold Zga
 obtain⟨N0,e1⟩:∃x,x=grN p.size s.size (p.tfl (grG a) (grH a) 0):=⟨_,rfl⟩
 obtain⟨B0,e2⟩:∃x,x=grB s.size (p.tfl (grG a) (grH a) 0):=⟨_,rfl⟩
 have e3:grN p.size s.size []=p.size:=by simp[grN]
 have e4:grB s.size []=false:=by simp[grB]
 rw[←e1,←e2,e3,e4] at h6
 rw[←e1,←e2]
 generalize p.pt a s 0=P at*
 clear e1 e2 hbd hG
 cases B0
 ·by_cases hN:N0>16384
  ·rw [if_pos (Or.inr hN),if_neg (by decide)]
   refine M.F Tryz.func12 ?_
   repeat'(first|refine M.go ?_|refine M.c2 (h1) ?_|refine M.c2 (h2) ?_|refine M.c2 (h3) ?_|refine M.c2 (h4) ?_|refine M.c2 (h5) ?_|refine M.cv (h6) [6,1,4,5] 0 ?_|((with_reducible refine D.aw ?_);(fail_if_success with_reducible refine D.stopR (id:=15) ?_);(fail_if_success with_reducible refine D.stopS (id:=15) ?_);first|refine M.ga ?_|refine AW.condS U (fun h=> ?_) (fun h=> ?_))|refine M.gk ?_|fail)
   all_goals first
    |rfl
    |(exfalso;simp at h;omega)
    |trace_state
  ·rw [if_neg (show ¬(false=true∨N0>16384) by simp;omega),if_pos rfl]
   refine M.F Tryz.func12 ?_
   repeat'(first|refine M.gw ?_|refine M.c2 (h1) ?_|refine M.c2 (h2) ?_|refine M.c2 (h3) ?_|refine M.c2 (h4) ?_|refine M.c2 (h5) ?_|refine M.cv (h6) [6,1,4,5] 0 ?_|refine M.c2 (h7) ?_|refine AW.condS U (fun h=> ?_) (fun h=> ?_)|fail)
   all_goals first
    |rfl
    |(exfalso;simp at h;omega)
    |trace_state
 ·rw [if_pos (Or.inl rfl),if_neg (by decide)]
  refine M.F Tryz.func12 ?_
  repeat'(first|refine M.gw ?_|refine M.c2 (h1) ?_|refine M.c2 (h2) ?_|refine M.c2 (h3) ?_|refine M.c2 (h4) ?_|refine M.c2 (h5) ?_|refine M.cv (h6) [6,1,4,5] 0 ?_|fail)
  rfl
end Go.Ab
namespace Go.Proofs
open Go.Shelf
def Tryz.keysB_ren:Go.Shelf.Ren:=⟨fun|7=>186|10=>222|n=>n,fun|23=>122|26=>3|3=>4|28=>198|0=>0|27=>197|33=>186|4=>4|n=>n,fun|n=>n⟩
theorem Tryz.keysB:Go.Proofs.SlLaysZI.n7 Tryz.prog Tryz.keysB_ren:={
 mixed:=by kernel_rfl
 f7:=⟨Tryz.f186.name,by decide,Tryz.func186.trans (congrArg some (by kernel_rfl))⟩
 f10:=⟨Tryz.f222.name,by decide,Tryz.func222.trans (congrArg some (by kernel_rfl))⟩
 t0:=Tryz.underlying0
 a0:=Tryz.isAgg0
 z0:=Tryz.sizeOf0
 v0:=Tryz.zeroValue0
 t4:=Tryz.underlying4
 a4:=Tryz.isAgg4
 z4:=Tryz.sizeOf4
 v4:=Tryz.zeroValue4
 t23:=Tryz.underlying122
 a23:=Tryz.isAgg122
 z23:=Tryz.sizeOf122
 v23:=Tryz.zeroValue122
 t26:=Tryz.underlying3
 a26:=Tryz.isAgg3
 z26:=Tryz.sizeOf3
 v26:=Tryz.zeroValue3
 t27:=Tryz.underlying197
 a27:=Tryz.isAgg197
 z27:=Tryz.sizeOf197
 v27:=Tryz.zeroValue197
 t28:=Tryz.underlying198
 a28:=Tryz.isAgg198
 z28:=Tryz.sizeOf198
 v28:=Tryz.zeroValue198
 t33:=Tryz.underlying186
 a33:=Tryz.isAgg186
 z33:=Tryz.sizeOf186
 v33:=Tryz.zeroValue186}
def Tryz.sortedA_ren:Go.Shelf.Ren:=⟨fun|6=>185|8=>220|9=>221|11=>238|13=>240|12=>239|23=>258|24=>259|14=>249|15=>250|16=>251|17=>252|18=>253|19=>254|20=>255|21=>256|22=>257|25=>267|26=>268|27=>269|28=>270|29=>271|30=>272|31=>279|n=>n,fun|26=>3|28=>198|24=>22|0=>0|3=>3|37=>238|48=>253|50=>255|4=>4|40=>247|39=>246|45=>157|5=>5|9=>9|51=>260|55=>264|57=>268|58=>269|33=>186|n=>n,fun|n=>n⟩
theorem Tryz.sortedA:Go.Proofs.SlLaysZI.n6 Tryz.prog Tryz.sortedA_ren:={
 mixed:=by kernel_rfl
 f6:=⟨Tryz.f185.name,by decide,Tryz.func185.trans (congrArg some (by kernel_rfl))⟩
 f8:=⟨Tryz.f220.name,by decide,Tryz.func220.trans (congrArg some (by kernel_rfl))⟩
 f11:=⟨Tryz.f238.name,by decide,Tryz.func238.trans (congrArg some (by kernel_rfl))⟩
 t0:=Tryz.underlying0
 a0:=Tryz.isAgg0
 z0:=Tryz.sizeOf0
 v0:=Tryz.zeroValue0
 t24:=Tryz.underlying22
 a24:=Tryz.isAgg22
 z24:=Tryz.sizeOf22
 v24:=Tryz.zeroValue22
 t26:=Tryz.underlying3
 a26:=Tryz.isAgg3
 z26:=Tryz.sizeOf3
 v26:=Tryz.zeroValue3
 t28:=Tryz.underlying198
 a28:=Tryz.isAgg198
 z28:=Tryz.sizeOf198
 v28:=Tryz.zeroValue198
 i26:=by kernel_rfl}
def Tryz.sortA_ren:Go.Shelf.Ren:=⟨fun|5=>221|8=>240|7=>239|19=>258|20=>259|10=>249|11=>250|12=>251|13=>252|14=>253|15=>254|16=>255|17=>256|18=>257|30=>267|31=>268|32=>269|33=>270|34=>271|35=>272|40=>279|n=>n,fun|23=>22|25=>3|3=>3|32=>238|22=>22|0=>0|44=>253|46=>255|4=>4|36=>247|35=>246|41=>157|5=>5|9=>9|53=>260|57=>264|63=>268|64=>269|n=>n,fun|n=>n⟩
theorem Tryz.sortA:Go.Proofs.SlLaysM.n5 Tryz.prog Tryz.sortA_ren:={
 mixed:=by kernel_rfl
 f5:=⟨Tryz.f221.name,by decide,Tryz.func221.trans (congrArg some (by kernel_rfl))⟩
 f7:=⟨Tryz.f239.name,by decide,Tryz.func239.trans (congrArg some (by kernel_rfl))⟩
 f8:=Tryz.func240.trans (congrArg some (by kernel_rfl))
 f10:=⟨Tryz.f249.name,by decide,Tryz.func249.trans (congrArg some (by kernel_rfl))⟩
 f11:=⟨Tryz.f250.name,by decide,Tryz.func250.trans (congrArg some (by kernel_rfl))⟩
 f12:=⟨Tryz.f251.name,by decide,Tryz.func251.trans (congrArg some (by kernel_rfl))⟩
 f13:=⟨Tryz.f252.name,by decide,Tryz.func252.trans (congrArg some (by kernel_rfl))⟩
 f14:=⟨Tryz.f253.name,by decide,Tryz.func253.trans (congrArg some (by kernel_rfl))⟩
 f15:=⟨Tryz.f254.name,by decide,Tryz.func254.trans (congrArg some (by kernel_rfl))⟩
 f16:=⟨Tryz.f255.name,by decide,Tryz.func255.trans (congrArg some (by kernel_rfl))⟩
 f17:=⟨Tryz.f256.name,by decide,Tryz.func256.trans (congrArg some (by kernel_rfl))⟩
 f18:=⟨Tryz.f257.name,by decide,Tryz.func257.trans (congrArg some (by kernel_rfl))⟩
 f19:=Tryz.func258.trans (congrArg some (by kernel_rfl))
 f20:=Tryz.func259.trans (congrArg some (by kernel_rfl))
 f30:=⟨Tryz.f267.name,by decide,Tryz.func267.trans (congrArg some (by kernel_rfl))⟩
 f31:=Tryz.func268.trans (congrArg some (by kernel_rfl))
 f32:=Tryz.func269.trans (congrArg some (by kernel_rfl))
 f33:=⟨Tryz.f270.name,by decide,Tryz.func270.trans (congrArg some (by kernel_rfl))⟩
 f34:=⟨Tryz.f271.name,by decide,Tryz.func271.trans (congrArg some (by kernel_rfl))⟩
 f35:=⟨Tryz.f272.name,by decide,Tryz.func272.trans (congrArg some (by kernel_rfl))⟩
 f40:=⟨Tryz.f279.name,by decide,Tryz.func279.trans (congrArg some (by kernel_rfl))⟩
 t0:=Tryz.underlying0
 a0:=Tryz.isAgg0
 z0:=Tryz.sizeOf0
 v0:=Tryz.zeroValue0
 t3:=Tryz.underlying3
 a3:=Tryz.isAgg3
 z3:=Tryz.sizeOf3
 v3:=Tryz.zeroValue3
 t4:=Tryz.underlying4
 a4:=Tryz.isAgg4
 z4:=Tryz.sizeOf4
 v4:=Tryz.zeroValue4
 t5:=Tryz.underlying5
 a5:=Tryz.isAgg5
 z5:=Tryz.sizeOf5
 v5:=Tryz.zeroValue5
 t9:=Tryz.underlying9
 a9:=Tryz.isAgg9
 z9:=Tryz.sizeOf9
 v9:=Tryz.zeroValue9
 t22:=Tryz.underlying22
 a22:=Tryz.isAgg22
 z22:=Tryz.sizeOf22
 v22:=Tryz.zeroValue22
 t23:=Tryz.underlying22
 a23:=Tryz.isAgg22
 z23:=Tryz.sizeOf22
 v23:=Tryz.zeroValue22
 t25:=Tryz.underlying3
 a25:=Tryz.isAgg3
 z25:=Tryz.sizeOf3
 v25:=Tryz.zeroValue3
 t32:=Tryz.underlying238
 a32:=Tryz.isAgg238
 z32:=Tryz.sizeOf238
 v32:=Tryz.zeroValue238
 t35:=Tryz.underlying246
 a35:=Tryz.isAgg246
 z35:=Tryz.sizeOf246
 v35:=Tryz.zeroValue246
 t36:=Tryz.underlying247
 a36:=Tryz.isAgg247
 z36:=Tryz.sizeOf247
 v36:=Tryz.zeroValue247
 t41:=Tryz.underlying157
 a41:=Tryz.isAgg157
 z41:=Tryz.sizeOf157
 v41:=Tryz.zeroValue157
 t44:=Tryz.underlying253
 a44:=Tryz.isAgg253
 z44:=Tryz.sizeOf253
 v44:=Tryz.zeroValue253
 t46:=Tryz.underlying255
 a46:=Tryz.isAgg255
 z46:=Tryz.sizeOf255
 v46:=Tryz.zeroValue255
 t53:=Tryz.underlying260
 a53:=Tryz.isAgg260
 z53:=Tryz.sizeOf260
 v53:=Tryz.zeroValue260
 t57:=Tryz.underlying264
 a57:=Tryz.isAgg264
 z57:=Tryz.sizeOf264
 v57:=Tryz.zeroValue264
 t63:=Tryz.underlying268
 a63:=Tryz.isAgg268
 z63:=Tryz.sizeOf268
 v63:=Tryz.zeroValue268
 t64:=Tryz.underlying269
 a64:=Tryz.isAgg269
 z64:=Tryz.sizeOf269
 v64:=Tryz.zeroValue269}
end Go.Proofs
namespace Go.Ab
open Go Go.Proofs Go.RowKit
set_option linter.all false
set_option maxRecDepth 100000
theorem Zvk(m:Nat):AnyZI.SortsIn E.P Tryz.sortedA_ren Fence.wide m:=
 ⟨fun blk off cap ss W hH hblk hsz=>callsIn_wide.2 (AnyM.slices_Sort_int Tryz.sortA blk off cap ss W hH hblk hsz),fun p cap W=>callsIn_wide.2 (AnyM.slices_Sort_int_none Tryz.sortA p cap W)⟩
theorem Zo7{σ:Sto}{n:Nat}(h:n<σ.nx):AC E 186 [.mp n] σ (.fn (.func 222) [] [.ptr σ.nx 0]) ⟨σ.nx+1,(σ.nx,.var [.mp n])::σ.es⟩:=
 AC.mapKeys (E:=E) (ρ7:=Tryz.keysB_ren) Tryz.keysB (enters_of Tryz.func186 (by kernel_rfl) rfl) h
theorem Zt8{σ:Sto}{n b:Nat}{c:EC}{ks:List Int}{xs:List c.sem}(hb:zh σ.es b=some (.var [.mp n]))(hn:zh σ.es n=some (.map c ks xs))
 (hnd:ks.Nodup) (hwf:∀x∈ks,(Lit.int .i64 x).wf=true) (hmax:ks.length<549755813888):
 AC E 185 [.fn (.func 222) [] [.ptr b 0]] σ (.s .int (yj ks)) σ:=
 AC.sortedKeys (E:=E) (ρ7:=Tryz.keysB_ren) (ρ6:=Tryz.sortedA_ren) Tryz.keysB Tryz.sortedA Zvk (enters_of Tryz.func185 (by kernel_rfl) rfl) (enters_of Tryz.func221 (by kernel_rfl) rfl)
  (enters_of Tryz.func222 (by kernel_rfl) rfl) (by kernel_rfl) hb hn hnd hwf (Nat.le_trans (Nat.le_of_lt hmax) (by decide)) (by omega)
end Go.Ab
