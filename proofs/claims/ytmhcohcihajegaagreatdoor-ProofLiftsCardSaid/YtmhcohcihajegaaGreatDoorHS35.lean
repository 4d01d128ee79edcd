/- A part of this seat's proofs. No conditions. -/
import Derived.Test.YtmhcohcihajegaaGreatDoorHBqDT1
import Derived.Test.YtmhcohcihajegaaGreatDoorHS29
import Derived.Test.YtmhcohcihajegaaGreatDoorHS33
namespace Go.Ab
open Go Go.Proofs
set_option maxRecDepth 100000
set_option maxHeartbeats 4000000
set_option linter.all false
def puG(v:Int)(t:Tm):List Int:=fre (t.vars v)
def puH(v:Int)(f:Fm):List Int:=f.fvl v
mutual
theorem Yfl:∀(v:Int) (p:Pf),(p.tfl puG puH v).flatten=p.fvl v
 |v,.mk k i ty ts fs zs=>by
  simp only[Pf.tfl,Pf.fvl,List.flatten_append];rw[Zy6 v (vaK k) zs]
  rfl
theorem Zy6:∀(v w:Int) (l:List Pf),(Pf.tfls puG puH v w l).flatten.flatten=(Pf.fvls v w l).flatten
 |_,_,[]=>rfl
 |v,w,p::l=>by
  simp only[Pf.tfls,Pf.fvls,List.flatten_cons,List.flatten_append];rw[Yfl,Zy6]
end
theorem puCb(ks:List Int)(i bl ab:Int)(hi:0<=i/\i<9223372036854775808)(hb:0<=bl/\bl<1099511627776)(ha:0<=ab/\ab<1099511627776):AC E 82 [.i i,.i bl,.ptr 0 0,.ptr 1 0] ⟨3,[(0,.var [.mp 2]),(1,.var [.i ab]),(2,.map .bl ks (List.replicate ks.length true))]⟩ (.tup [])
 ⟨3,[(0,.var [.mp 2]),(1,.var [.i ab]),(2,.map .bl (nub ks (fre [(i,bl+ab)])) (List.replicate (nub ks (fre [(i,bl+ab)])).length true))]⟩:=by
 have hc:=Zsd ks (i-bl-ab);have e:(if 0<=i-bl-ab then uh (i-bl-ab) ks else ks)=nub ks (fre [(i,bl+ab)]):=by
  rw[Zrd];by_cases h:bl+ab<=i
  ·rw[if_pos (by omega),if_pos h,Zlu,show i-bl-ab=i-(bl+ab) by omega]
  ·rw[if_neg (by omega),if_neg h,Zbr]
 rw[e] at hc;refine M.F Tryz.func82 ?_;(repeat' first|refine M.w0 ?_|refine M.cb (hc) [2] 0 ?_|fail)
 (exact M.n2 rh3 (h8:=(by simp[zn,V.wk,V.wks,za,Ty.view,Tm.view,hc])))
theorem Yhw(ab:Int)(hab:0<=ab/\ab<1099511627776):∀(n:Nat) (t:Tm) (ks:List Int) (bl:Int),t.full<=n->n<1099511627776->0<=bl->bl+n<1099511627776->(∀p∈t.vars (bl+ab),0<=p.1/\p.1<9223372036854775808)->AC E 129 [.agg t.view,.i bl,.ptr 0 0,.ptr 1 0] ⟨5,[(0,.var [.fn (.func 82) [] [.ptr 2 0,.ptr 3 0]]),(1,.var [.fn (.func 129) [] [.ptr 0 0,.ptr 1 0]]),(2,.var [.mp 4]),(3,.var [.i ab]),(4,.map .bl ks (List.replicate ks.length true))]⟩ (.tup [])
 ⟨5,[(0,.var [.fn (.func 82) [] [.ptr 2 0,.ptr 3 0]]),(1,.var [.fn (.func 129) [] [.ptr 0 0,.ptr 1 0]]),(2,.var [.mp 4]),(3,.var [.i ab]),(4,.map .bl (nub ks (fre (t.vars (bl+ab)))) (List.replicate (nub ks (fre (t.vars (bl+ab)))).length true))]⟩:=by
 intro n;induction n with
 |zero=>intro t b bl h;have:=t.full_pos;omega
 |succ n ih=>
 intro t ks bl hsz hb hbl hbn hix;have hsz':=Tm.full_eq t;have hlen:=zg Tm.full Tm.full_pos t.args;have hv:=Tm.vars_eq (bl+ab) t;rw[show up t.kind (bl+ab)=up t.kind bl+ab by simp only[up];split<;>omega] at hv;have hi:t.kind=1->0<=t.index/\t.index<9223372036854775808:=fun h=>by simpa using hix (t.index,bl+ab) (by rw[hv];simp[h])
 have hcb:t.kind=1->_:=fun h=>puCb ks t.index bl ab (hi h) (by omega) hab;refine M.F Tryz.func129 ?_;(repeat' first|refine M.w0 ?_|refine M.cv (hcb (by simpa using h)) [2,3,4] 0 ?_|refine M.cs ?_ ?_<;>intro h|fail);all_goals
  have hup:up t.kind bl<=bl+1:=by simp only[up];split<;>omega
  have hup0:0<=up t.kind bl:=by simp only[up];split<;>omega
  refine M.rt t.args.length
   (fun m=>([(1,.i (up t.kind bl)),(3,.ptr 1 0),(22,.s .tm t.args),(23,.i t.args.length),(24,.i m)],⟨6,[(0,.var [.fn (.func 82) [] [.ptr 2 0,.ptr 3 0]]),(1,.var [.fn (.func 129) [] [.ptr 0 0,.ptr 1 0]]),(2,.var [.mp 4]),(3,.var [.i ab]),(4,.map .bl (nub ks (fre ((if t.kind=1 then [(t.index,bl+ab)] else [])++(t.args.take m).flatMap (Tm.vars (up t.kind bl+ab))))) (List.replicate (nub ks (fre ((if t.kind=1 then [(t.index,bl+ab)] else [])++(t.args.take m).flatMap (Tm.vars (up t.kind bl+ab))))).length true)),(5,.var t.view)]⟩))
   ?_ ?_ ?_
  ·simp_all only[beq_iff_eq,beq_eq_false_iff_ne,ne_eq];exact(M.W rh6 (hf:=(by(repeat'(first|exact trivial|refine And.intro ?_ ?_|refine⟨_,U,_,U,?_⟩|exact VLe.refl _|exact VLe.of_eq (by simp[Sto.upd,up, *,Zdg,Zix,Zbr])));done)) (he:=(by(repeat'(first|exact trivial|refine And.intro ?_ ?_|refine⟨_,U,_,U,_,U,?_⟩|exact VLe.refl _|refine⟨_,U,_,_,U,?_,?_⟩|(simp[Sto.upd,up, *,Zdg,Zix,Zbr];done)));done)))
  ·intro m hm hP;have hs2:=zc Tm.full (List.getElem_mem hm);have hix':∀p∈(t.args[m]).vars (up t.kind bl+ab),0<=p.1/\p.1<9223372036854775808:=fun p hp=>hix p (by rw[hv];exact List.mem_append_right _ (List.mem_flatMap.2 ⟨_,List.getElem_mem hm,hp⟩));have hc:=ih t.args[m] (nub ks (fre ((if t.kind=1 then [(t.index,bl+ab)] else [])++(t.args.take m).flatMap (Tm.vars (up t.kind bl+ab))))) (up t.kind bl) (by omega) (by omega) hup0 (by omega) hix';(repeat' first|refine M.w0 ?_|refine M.cv (hc) [0,1,2,3,4] 0 ?_|fail);refine⟨rfl,trivial,?_⟩;exact(M.W rh6 (he:=(by(repeat'(first|exact trivial|refine And.intro ?_ ?_|refine⟨_,U,_,U,_,U,?_⟩|exact VLe.refl _|refine⟨_,U,_,_,U,?_,?_⟩|(simp[Sto.upd,Zdg,Zbw,Zcx _ _ _ hm,<-List.append_assoc];done)));done)))
  ·intro hP;skip
   (exact M.n2 rh5 (h6:=(by(repeat'(first|exact trivial|refine And.intro ?_ ?_|refine⟨_,U,_,U,_,U,?_⟩|exact VLe.refl _|refine⟨_,U,_,_,U,?_,?_⟩|(simp[Sto.upd,hv];done)));done)) (h8:=(by simp[zn,V.wk,V.wks,za,Ty.view,Tm.view,hv])))
theorem Zz0(ab:Int)(hab:0<=ab/\ab<1099511627776)(ks:List Int)(t:Tm)(ht:t.full<549755813888)(hix:∀p∈t.vars ab,0<=p.1/\p.1<9223372036854775808):AC E 81 [.agg t.view,.fn (.func 82) [] [.ptr 0 0,.ptr 1 0]] ⟨3,[(0,.var [.mp 2]),(1,.var [.i ab]),(2,.map .bl ks (List.replicate ks.length true))]⟩ (.tup []) ⟨3,[(0,.var [.mp 2]),(1,.var [.i ab]),(2,.map .bl (nub ks (fre (t.vars ab))) (List.replicate (nub ks (fre (t.vars ab))).length true))]⟩:=by
 have hc:=Yhw ab hab _ t ks 0 (Nat.le_refl _) (by omega) (by omega) (by omega) (by rw[Int.zero_add];exact hix);rw[Int.zero_add] at hc;refine M.F Tryz.func81 ?_;(repeat' first|refine M.w0 ?_|refine M.cv (hc) [4,5,0,1,2] 0 ?_|fail)
 (exact M.n2 rh3 (h8:=(by simp[zn,V.wk,V.wks,za,Ty.view,Tm.view,Yca])))
theorem Yl1(ab:Int)(hab:0<=ab/\ab<1099511627776)(ks:List Int)(t:Tm)(ht:t.full<549755813888)(hix:∀p∈t.vars ab,0<=p.1/\p.1<9223372036854775808):AC E 80 [.agg t.view,.i ab,.ptr 0 0] ⟨2,[(0,.var [.mp 1]),(1,.map .bl ks (List.replicate ks.length true))]⟩ (.tup []) ⟨2,[(0,.var [.mp 1]),(1,.map .bl (nub ks (fre (Zbz [(t,ab)]))) (List.replicate (nub ks (fre (Zbz [(t,ab)]))).length true))]⟩:=by
 have hc:=Zz0 ab hab ks t ht hix;refine M.F Tryz.func80 ?_;(repeat' first|refine M.w0 ?_|refine M.cb (hc) [0,3,1] 0 ?_|fail)
 (exact M.n2 rh2 (h6:=(by(repeat'(first|exact trivial|refine And.intro ?_ ?_|refine⟨_,U,_,U,_,U,?_⟩|exact VLe.refl _|refine⟨_,U,_,_,U,?_,?_⟩|(simp[Sto.upd,Zop];done)));done)) (h8:=(by simp[zn,V.wk,V.wks,za,Ty.view,Tm.view,Zop])))
theorem Yhu:∀(n:Nat) (f:Fm) (ks:List Int) (bl:Int),f.full<=n->n<549755813888->0<=bl->bl+n<549755813888->(∀p∈Zbz (f.tms bl),0<=p.1/\p.1<9223372036854775808)->AC E 84 [.agg f.view,.i bl,.fn (.func 80) [] [.ptr 0 0]] ⟨2,[(0,.var [.mp 1]),(1,.map .bl ks (List.replicate ks.length true))]⟩ (.tup []) ⟨2,[(0,.var [.mp 1]),(1,.map .bl (nub ks (fre (Zbz (f.tms bl)))) (List.replicate (nub ks (fre (Zbz (f.tms bl)))).length true))]⟩:=by
 intro n;induction n with
 |zero=>intro f;intros;have:=f.full_pos;omega
 |succ n ih=>
 intro f ks bl hsz hn hbl hbn hix;have hsz':=f.full_eq;have hlen:=zg Fm.full Fm.full_pos f.args;have hlen2:=zg Tm.full Tm.full_pos f.terms;have htm:=f.tms_eq bl;have hq:=Zb7 f.kind;refine M.F Tryz.func84 ?_;refine M.w0 ?_;refine M.rt f.terms.length
  (fun m=>([(1,.i bl),(2,.fn (.func 80) [] [.ptr 0 0]),(3,.ptr 2 0),(11,.s .tm f.terms),(12,.i f.terms.length),(13,.i m)],⟨3,[(0,.var [.mp 1]),(1,.map .bl (nub ks (fre (Zbz ((f.terms.take m).map (fun t=>(t,bl)))))) (List.replicate (nub ks (fre (Zbz ((f.terms.take m).map (fun t=>(t,bl)))))).length true)),(2,.var f.view)]⟩))
  ?_ ?_ ?_
 ·exact (M.W rh3 (he:=(by(repeat'(first|exact trivial|refine And.intro ?_ ?_|refine⟨_,U,_,U,_,U,?_⟩|exact VLe.refl _|refine⟨_,U,_,_,U,?_,?_⟩|(simp[Sto.upd,Zzi,Zix,Zbr];done)));done)))
 ·intro m hm _;have hs2:=zc Tm.full (List.getElem_mem hm);have hc:=Yl1 bl (by omega) (nub ks (fre (Zbz ((f.terms.take m).map (fun t=>(t,bl)))))) f.terms[m] (by omega) fun p hp=>hix p (by rw[htm,Zgt];exact List.mem_append_left _ (List.mem_flatMap.2 ⟨(f.terms[m],bl),List.mem_map.2 ⟨_,List.getElem_mem hm,rfl⟩,hp⟩));refine M.w1 @hc ?_;refine⟨rfl,trivial,?_⟩;exact(M.W rh3 (he:=(by(repeat'(first|exact trivial|refine And.intro ?_ ?_|refine⟨_,U,_,U,_,U,?_⟩|exact VLe.refl _|refine⟨_,U,_,_,U,?_,?_⟩|(simp[Sto.upd,Zgt,Zdg,Zbw,ym _ _ _ hm];done)));done)))
 ·intro _;simp only[List.take_length];(repeat' first|refine M.w1 @hq ?_|refine M.cs ?_ ?_<;>intro h|fail);all_goals
   have hup:upF f.kind bl<=bl+1:=by simp only[upF];split<;>omega
   have hup0:0<=upF f.kind bl:=by simp only[upF];split<;>omega
   refine M.rt f.args.length
    (fun m=>([(1,.i (upF f.kind bl)),(2,.fn (.func 80) [] [.ptr 0 0]),(3,.ptr 2 0),(28,.s .fm f.args),(29,.i f.args.length),(30,.i m)],⟨3,[(0,.var [.mp 1]),(1,.map .bl (nub ks (fre (Zbz (f.terms.map (fun t=>(t,bl))++(f.args.take m).flatMap (Fm.tms (upF f.kind bl)))))) (List.replicate (nub ks (fre (Zbz (f.terms.map (fun t=>(t,bl))++(f.args.take m).flatMap (Fm.tms (upF f.kind bl)))))).length true)),(2,.var f.view)]⟩))
    ?_ ?_ ?_
   ·exact (M.W rh3 (hf:=(by(repeat'(first|exact trivial|refine And.intro ?_ ?_|refine⟨_,U,_,U,?_⟩|exact VLe.refl _|exact VLe.of_eq (by simp[Sto.upd,upF,h])));done)) (he:=(by(repeat'(first|exact trivial|refine And.intro ?_ ?_|refine⟨_,U,_,U,_,U,?_⟩|exact VLe.refl _|refine⟨_,U,_,_,U,?_,?_⟩|(simp[Sto.upd,upF,h];done)));done)))
   ·intro m hm _;have hs2:=zc Fm.full (List.getElem_mem hm);have hc:=ih f.args[m] (nub ks (fre (Zbz (f.terms.map (fun t=>(t,bl))++(f.args.take m).flatMap (Fm.tms (upF f.kind bl)))))) (upF f.kind bl) (by omega) (by omega) hup0 (by omega) fun p hp=>hix p (by rw[htm,Zgt];refine List.mem_append_right _ ?_;obtain⟨q,hq1,hq2⟩:=List.mem_flatMap.1 hp;exact List.mem_flatMap.2 ⟨q,List.mem_flatMap.2 ⟨_,List.getElem_mem hm,hq1⟩,hq2⟩);refine M.w1 @hc ?_;refine⟨rfl,trivial,?_⟩;exact(M.W rh3 (he:=(by(repeat'(first|exact trivial|refine And.intro ?_ ?_|refine⟨_,U,_,U,_,U,?_⟩|exact VLe.refl _|refine⟨_,U,_,_,U,?_,?_⟩|(simp[Sto.upd,Zgt,Zdg,Zbw,Zcx _ _ _ hm,<-List.append_assoc];done)));done)))
   ·intro _;skip
    (exact M.n2 rh2 (h6:=(by(repeat'(first|exact trivial|refine And.intro ?_ ?_|refine⟨_,U,_,U,_,U,?_⟩|exact VLe.refl _|refine⟨_,U,_,_,U,?_,?_⟩|(simp[Sto.upd,htm];done)));done)) (h8:=(by simp[zn,V.wk,V.wks,za,Ty.view,Tm.view,htm])))
theorem nubX(Xs:List (List Int))(x:List Int):nub [] ((Xs++[x]).flatten)=nub (nub [] Xs.flatten) x:=by rw[List.flatten_append,Zbw];simp
theorem Yka(Xs:List (List Int))(t:Tm)(bl:Int)(ht:t.full<549755813888)(hb:0<=bl/\bl<1099511627776)(hix:t.ixr):
 AC E 80 [.agg t.view,.i bl,.ptr 0 0] ⟨3,[(0,.var [.mp 2]),(1,.var [.fn (.func 80) [] [.ptr 0 0]]),(2,.map .bl (nub [] Xs.flatten) (List.replicate (nub [] Xs.flatten).length true))]⟩ (.tup [])
  ⟨3,[(0,.var [.mp 2]),(1,.var [.fn (.func 80) [] [.ptr 0 0]]),(2,.map .bl (nub [] (Xs++[puG bl t]).flatten) (List.replicate (nub [] (Xs++[puG bl t]).flatten).length true))]⟩:=by
 have hc:=Zz0 bl hb (nub [] Xs.flatten) t ht (hix bl);rw[nubX];unfold puG;generalize nub [] Xs.flatten=ks at*;refine M.F Tryz.func80 ?_;(repeat' first|refine M.w0 ?_|refine M.cb (hc) [0,4,2] 0 ?_|fail)
 (exact M.n2 rh3 (h8:=(by simp[zn,V.wk,V.wks,za,Ty.view,Tm.view,hc])))
theorem Yk1(Xs:List (List Int))(f:Fm)(bl:Int)(hf:f.full<274877906944)(hb:0<=bl/\bl<274877906944)(hix:f.ixr):
 AC E 83 [.agg f.view,.i bl,.ptr 1 0] ⟨3,[(0,.var [.mp 2]),(1,.var [.fn (.func 80) [] [.ptr 0 0]]),(2,.map .bl (nub [] Xs.flatten) (List.replicate (nub [] Xs.flatten).length true))]⟩ (.tup [])
  ⟨3,[(0,.var [.mp 2]),(1,.var [.fn (.func 80) [] [.ptr 0 0]]),(2,.map .bl (nub [] (Xs++[puH bl f]).flatten) (List.replicate (nub [] (Xs++[puH bl f]).flatten).length true))]⟩:=by
 have hc:=Yhu _ f (nub [] Xs.flatten) bl (Nat.le_refl _) (by omega) (by omega) (by omega) (fun p hp=>by
  obtain⟨q,hq,hp⟩:=List.mem_flatMap.1 hp;exact hix bl q hq q.2 p hp)
 rw[Zo1] at hc;rw[nubX];show AC E _ _ _ _ ⟨3,[_,_,(2,.map .bl (nub (nub [] Xs.flatten) ((f.tms bl).flatMap fun p=>fre (p.1.vars p.2))) (List.replicate (nub (nub [] Xs.flatten) ((f.tms bl).flatMap fun p=>fre (p.1.vars p.2))).length true))]⟩;generalize nub [] Xs.flatten=ks at*;generalize nub ks ((f.tms bl).flatMap fun p=>fre (p.1.vars p.2))=ks2 at*;refine M.F Tryz.func83 ?_;(repeat' first|refine M.w0 ?_|refine M.cb (hc) [0,2] 0 ?_|fail)
 (exact M.n2 rh3 (h8:=(by simp[zn,V.wk,V.wks,za,Ty.view,Tm.view,hc])))
theorem Ylj:∀(n:Nat) (p:Pf) (v y:Int) (Xs:List (List Int)),p.full<=n->n<10000000000->(0<=v/\v+2*n<=50000000000)->(0<=y/\y+2*n<=50000000000)->p.nd->p.ixr->
 AC E 105 [.agg p.view,.agg [.i v,.i y],.agg [.fn (.func 80) [] [.ptr 0 0],.fn (.func 83) [] [.ptr 1 0],.nilf]] ⟨3,[(0,.var [.mp 2]),(1,.var [.fn (.func 80) [] [.ptr 0 0]]),(2,.map .bl (nub [] Xs.flatten) (List.replicate (nub [] Xs.flatten).length true))]⟩ (.tup []) ⟨3,[(0,.var [.mp 2]),(1,.var [.fn (.func 80) [] [.ptr 0 0]]),(2,.map .bl (nub [] (Xs++p.tfl (puG) (puH) v).flatten) (List.replicate (nub [] (Xs++p.tfl (puG) (puH) v).flatten).length true))]⟩:=by
 intro n;induction n with
 |zero=>intro p v y Xs hz;have:=p.full_pos;omega
 |succ n ih=>
 intro p v y Xs hz hn hv hh hs hix;obtain⟨_,i1,i2,i3⟩:=(Pf.ixr_iff p).1 hix;have hre:=p.tfl_eq (puG) (puH) v;have hsz':=p.full_eq;have hlen:=zg Pf.full Pf.full_pos p.args;have hlen1:=zg Fm.full Fm.full_pos p.forms;have hlen2:=zg Tm.full Tm.full_pos p.terms;have hru:=Za6 p.kind;obtain⟨⟨nd,n1,n4⟩,hpf⟩:=(Pf.nd_iff p).1 hs;have hal:p.args.length<=2:=by
  rw[n4];unfold ndP at n1
  repeat(split at n1;· cases n1;decide)
  cases n1
 have hpl:=fun(m:Nat) (hm:m<=1000000)=>wu p.kind v y nd n1 m hm (by omega) (by omega);have e2:ruC p.kind=[.bool nd.index,.bool nd.typ,.i nd.terms,.i nd.forms,.i nd.args,.i (fvK p.kind),.i (vaK p.kind),.i (hyK p.kind)]:=by unfold ruC;rw[n1]
 have b1:0<=vaK p.kind/\vaK p.kind<=2:=by unfold vaK;split<;>(try split)<;>omega
 have b2:0<=hyK p.kind/\hyK p.kind<=1:=by unfold hyK;split<;>omega
 have b3:0<=fvK p.kind/\fvK p.kind<=1:=by unfold fvK;split<;>omega
 rw[n1] at hru;simp only[Option.isSome_some] at hru;rw[e2] at hru;simp only[e2] at hpl;clear n1 e2;obtain⟨x3,x4,x5,ix,x2⟩:=nd;simp only at n4 hru hpl;cases ix
 ·refine M.F Tryz.func105 ?_;refine M.w1 @hru ?_;refine M.rt p.terms.length
   (fun m=>([(3,.ptr 3 0),(4,.ptr 4 0),(5,.ptr 5 0),(6,.ptr 6 0),(33,.s .tm p.terms),(34,.i p.terms.length),(35,.i m)],⟨7,[(0,.var [.mp 2]),(1,.var [.fn (.func 80) [] [.ptr 0 0]]),(2,.map .bl (nub [] (Xs++(p.terms.take m).map ((puG) v)).flatten) (List.replicate (nub [] (Xs++(p.terms.take m).map ((puG) v)).flatten).length true)),(3,.var p.view),(4,.var [.i v,.i y]),(5,.var [.fn (.func 80) [] [.ptr 0 0],.fn (.func 83) [] [.ptr 1 0],.nilf]),(6,.var [.bool false,.bool x2,.i x3,.i x4,.i x5,.i (fvK p.kind),.i (vaK p.kind),.i (hyK p.kind)])]⟩))
   (M.W rh7 (he:=(by(repeat'(first|exact trivial|refine And.intro ?_ ?_|refine⟨_,U,_,U,_,U,?_⟩|exact VLe.refl _|refine⟨_,U,_,_,U,?_,?_⟩|(simp[Sto.upd,List.take_zero,List.map_nil,List.append_nil];done)));done))) ?_ ?_
  ·intro m hm _;have hs2:=zc Tm.full (List.getElem_mem hm);have hc:=Yka (Xs++(p.terms.take m).map (puG v)) p.terms[m] v (by omega) (by omega) (i1 _ (List.getElem_mem hm));(repeat' first|refine M.w0 ?_|refine M.cv (hc) [0,1,2] 0 ?_|fail);exact⟨rfl,trivial,(M.W rh7 (he:=(by(repeat'(first|exact trivial|refine And.intro ?_ ?_|refine⟨_,U,_,U,_,U,?_⟩|exact VLe.refl _|refine⟨_,U,_,_,U,?_,?_⟩|(simp[Sto.upd,ym _ _ _ hm,List.append_assoc];done)));done)))⟩
  ·intro _;simp only[List.take_length];refine M.w0 ?_;refine M.rt p.forms.length
    (fun m=>([(3,.ptr 3 0),(4,.ptr 4 0),(5,.ptr 5 0),(6,.ptr 6 0),(50,.s .fm p.forms),(51,.i p.forms.length),(52,.i m)],⟨7,[(0,.var [.mp 2]),(1,.var [.fn (.func 80) [] [.ptr 0 0]]),(2,.map .bl (nub [] (Xs++p.terms.map ((puG) v)++(p.forms.take m).map ((puH) (v+fvK p.kind))).flatten) (List.replicate (nub [] (Xs++p.terms.map ((puG) v)++(p.forms.take m).map ((puH) (v+fvK p.kind))).flatten).length true)),(3,.var p.view),(4,.var [.i v,.i y]),(5,.var [.fn (.func 80) [] [.ptr 0 0],.fn (.func 83) [] [.ptr 1 0],.nilf]),(6,.var [.bool false,.bool x2,.i x3,.i x4,.i x5,.i (fvK p.kind),.i (vaK p.kind),.i (hyK p.kind)])]⟩))
    (M.W rh7 (he:=(by(repeat'(first|exact trivial|refine And.intro ?_ ?_|refine⟨_,U,_,U,_,U,?_⟩|exact VLe.refl _|refine⟨_,U,_,_,U,?_,?_⟩|(simp[Sto.upd,List.take_zero,List.map_nil,List.append_nil];done)));done))) ?_ ?_
   ·intro m hm _;have hs2:=zc Fm.full (List.getElem_mem hm);have hc:=Yk1 (Xs++p.terms.map (puG v)++(p.forms.take m).map (puH (v+fvK p.kind))) p.forms[m] (v+fvK p.kind) (by omega) (by omega) (i2 _ (List.getElem_mem hm));(repeat' first|refine M.w0 ?_|refine M.cv (hc) [0,1,2] 0 ?_|fail);exact⟨rfl,trivial,(M.W rh7 (he:=(by(repeat'(first|exact trivial|refine And.intro ?_ ?_|refine⟨_,U,_,U,_,U,?_⟩|exact VLe.refl _|refine⟨_,U,_,_,U,?_,?_⟩|(simp[Sto.upd,ym _ _ _ hm,List.append_assoc];done)));done)))⟩
   ·intro _;simp only[List.take_length];refine M.w0 ?_;refine M.rt p.args.length
     (fun m=>([(3,.ptr 3 0),(4,.ptr 4 0),(5,.ptr 5 0),(6,.ptr 6 0),(70,.s .pf p.args),(71,.i p.args.length),(72,.i m)],⟨7,[(0,.var [.mp 2]),(1,.var [.fn (.func 80) [] [.ptr 0 0]]),(2,.map .bl (nub [] (Xs++p.terms.map ((puG) v)++p.forms.map ((puH) (v+fvK p.kind))++((Pf.tfls (puG) (puH) v (vaK p.kind) p.args).take m).flatten).flatten) (List.replicate (nub [] (Xs++p.terms.map ((puG) v)++p.forms.map ((puH) (v+fvK p.kind))++((Pf.tfls (puG) (puH) v (vaK p.kind) p.args).take m).flatten).flatten).length true)),(3,.var p.view),(4,.var [.i v,.i y]),(5,.var [.fn (.func 80) [] [.ptr 0 0],.fn (.func 83) [] [.ptr 1 0],.nilf]),(6,.var [.bool false,.bool x2,.i x3,.i x4,.i x5,.i (fvK p.kind),.i (vaK p.kind),.i (hyK p.kind)])]⟩))
     (M.W rh7 (he:=(by(repeat'(first|exact trivial|refine And.intro ?_ ?_|refine⟨_,U,_,U,_,U,?_⟩|exact VLe.refl _|refine⟨_,U,_,_,U,?_,?_⟩|(simp[Sto.upd,List.take_zero,List.flatten_nil,List.append_nil];done)));done))) ?_ ?_
    ·intro m hm _;have hs2:=zc Pf.full (List.getElem_mem hm);have hb:=hpl m (by omega);have hc:=ih p.args[m] (if m+1=p.args.length then v+vaK p.kind else v) (if m+1=p.args.length then y+hyK p.kind else y) (Xs++p.terms.map ((puG) v)++p.forms.map ((puH) (v+fvK p.kind))++((Pf.tfls (puG) (puH) v (vaK p.kind) p.args).take m).flatten) (by omega) (by omega) (by split<;>omega) (by split<;>omega) (hpf _ (List.getElem_mem hm)) (i3 _ (List.getElem_mem hm));have e3:(Xs++p.terms.map ((puG) v)++p.forms.map ((puH) (v+fvK p.kind))++((Pf.tfls (puG) (puH) v (vaK p.kind) p.args).take m).flatten)++p.args[m].tfl (puG) (puH) (if m+1=p.args.length then v+vaK p.kind else v)=(Xs++p.terms.map ((puG) v)++p.forms.map ((puH) (v+fvK p.kind))++((Pf.tfls (puG) (puH) v (vaK p.kind) p.args).take (m+1)).flatten):=by rw[List.append_assoc,Zf9 (puG) (puH) hm]
     rw[e3] at hc;have ev:(if(m:Int)=(x5:Int)-1 then y+hyK p.kind else y)=(if m+1=p.args.length then y+hyK p.kind else y):=by
      by_cases hx:m+1=p.args.length
      ·rw[if_pos hx,if_pos (by omega)]
      ·rw[if_neg hx,if_neg (by omega)]
     have ev2:(if(m:Int)=(x5:Int)-1 then v+vaK p.kind else v)=(if m+1=p.args.length then v+vaK p.kind else v):=by
      by_cases hx:m+1=p.args.length
      ·rw[if_pos hx,if_pos (by omega)]
      ·rw[if_neg hx,if_neg (by omega)]
     rw[ev,ev2] at hb;(repeat' first|refine M.w1 @hb ?_|refine M.cv (hc) [0,1,2] 0 ?_|fail);exact⟨rfl,trivial,(M.W rh7)⟩
    ·intro _;rw[hre];simp only[Zh9];skip
     (exact M.n2 rh3 (h6:=(by(repeat'(first|exact trivial|refine And.intro ?_ ?_|refine⟨_,U,_,U,_,U,?_⟩|exact VLe.refl _|refine⟨_,U,_,_,U,?_,?_⟩|(simp[Sto.upd,List.append_assoc];done)));done)) (h8:=(by simp[zn,V.wk,V.wks,za,Ty.view,Tm.view,List.append_assoc])))
 ·refine M.F Tryz.func105 ?_;refine M.w1 @hru ?_;refine M.rt p.terms.length
   (fun m=>([(3,.ptr 3 0),(4,.ptr 4 0),(5,.ptr 5 0),(6,.ptr 6 0),(33,.s .tm p.terms),(34,.i p.terms.length),(35,.i m)],⟨7,[(0,.var [.mp 2]),(1,.var [.fn (.func 80) [] [.ptr 0 0]]),(2,.map .bl (nub [] (Xs++(p.terms.take m).map ((puG) v)).flatten) (List.replicate (nub [] (Xs++(p.terms.take m).map ((puG) v)).flatten).length true)),(3,.var p.view),(4,.var [.i v,.i y]),(5,.var [.fn (.func 80) [] [.ptr 0 0],.fn (.func 83) [] [.ptr 1 0],.nilf]),(6,.var [.bool true,.bool x2,.i x3,.i x4,.i x5,.i (fvK p.kind),.i (vaK p.kind),.i (hyK p.kind)])]⟩))
   (M.W rh7 (he:=(by(repeat'(first|exact trivial|refine And.intro ?_ ?_|refine⟨_,U,_,U,_,U,?_⟩|exact VLe.refl _|refine⟨_,U,_,_,U,?_,?_⟩|(simp[Sto.upd,List.take_zero,List.map_nil,List.append_nil];done)));done))) ?_ ?_
  ·intro m hm _;have hs2:=zc Tm.full (List.getElem_mem hm);have hc:=Yka (Xs++(p.terms.take m).map (puG v)) p.terms[m] v (by omega) (by omega) (i1 _ (List.getElem_mem hm));(repeat' first|refine M.w0 ?_|refine M.cv (hc) [0,1,2] 0 ?_|fail);exact⟨rfl,trivial,(M.W rh7 (he:=(by(repeat'(first|exact trivial|refine And.intro ?_ ?_|refine⟨_,U,_,U,_,U,?_⟩|exact VLe.refl _|refine⟨_,U,_,_,U,?_,?_⟩|(simp[Sto.upd,ym _ _ _ hm,List.append_assoc];done)));done)))⟩
  ·intro _;simp only[List.take_length];refine M.w0 ?_;refine M.rt p.forms.length
    (fun m=>([(3,.ptr 3 0),(4,.ptr 4 0),(5,.ptr 5 0),(6,.ptr 6 0),(50,.s .fm p.forms),(51,.i p.forms.length),(52,.i m)],⟨7,[(0,.var [.mp 2]),(1,.var [.fn (.func 80) [] [.ptr 0 0]]),(2,.map .bl (nub [] (Xs++p.terms.map ((puG) v)++(p.forms.take m).map ((puH) (v+fvK p.kind))).flatten) (List.replicate (nub [] (Xs++p.terms.map ((puG) v)++(p.forms.take m).map ((puH) (v+fvK p.kind))).flatten).length true)),(3,.var p.view),(4,.var [.i v,.i y]),(5,.var [.fn (.func 80) [] [.ptr 0 0],.fn (.func 83) [] [.ptr 1 0],.nilf]),(6,.var [.bool true,.bool x2,.i x3,.i x4,.i x5,.i (fvK p.kind),.i (vaK p.kind),.i (hyK p.kind)])]⟩))
    (M.W rh7 (he:=(by(repeat'(first|exact trivial|refine And.intro ?_ ?_|refine⟨_,U,_,U,_,U,?_⟩|exact VLe.refl _|refine⟨_,U,_,_,U,?_,?_⟩|(simp[Sto.upd,List.take_zero,List.map_nil,List.append_nil];done)));done))) ?_ ?_
   ·intro m hm _;have hs2:=zc Fm.full (List.getElem_mem hm);have hc:=Yk1 (Xs++p.terms.map (puG v)++(p.forms.take m).map (puH (v+fvK p.kind))) p.forms[m] (v+fvK p.kind) (by omega) (by omega) (i2 _ (List.getElem_mem hm));(repeat' first|refine M.w0 ?_|refine M.cv (hc) [0,1,2] 0 ?_|fail);exact⟨rfl,trivial,(M.W rh7 (he:=(by(repeat'(first|exact trivial|refine And.intro ?_ ?_|refine⟨_,U,_,U,_,U,?_⟩|exact VLe.refl _|refine⟨_,U,_,_,U,?_,?_⟩|(simp[Sto.upd,ym _ _ _ hm,List.append_assoc];done)));done)))⟩
   ·intro _;simp only[List.take_length];refine M.w0 ?_;refine M.rt p.args.length
     (fun m=>([(3,.ptr 3 0),(4,.ptr 4 0),(5,.ptr 5 0),(6,.ptr 6 0),(70,.s .pf p.args),(71,.i p.args.length),(72,.i m)],⟨7,[(0,.var [.mp 2]),(1,.var [.fn (.func 80) [] [.ptr 0 0]]),(2,.map .bl (nub [] (Xs++p.terms.map ((puG) v)++p.forms.map ((puH) (v+fvK p.kind))++((Pf.tfls (puG) (puH) v (vaK p.kind) p.args).take m).flatten).flatten) (List.replicate (nub [] (Xs++p.terms.map ((puG) v)++p.forms.map ((puH) (v+fvK p.kind))++((Pf.tfls (puG) (puH) v (vaK p.kind) p.args).take m).flatten).flatten).length true)),(3,.var p.view),(4,.var [.i v,.i y]),(5,.var [.fn (.func 80) [] [.ptr 0 0],.fn (.func 83) [] [.ptr 1 0],.nilf]),(6,.var [.bool true,.bool x2,.i x3,.i x4,.i x5,.i (fvK p.kind),.i (vaK p.kind),.i (hyK p.kind)])]⟩))
     (M.W rh7 (he:=(by(repeat'(first|exact trivial|refine And.intro ?_ ?_|refine⟨_,U,_,U,_,U,?_⟩|exact VLe.refl _|refine⟨_,U,_,_,U,?_,?_⟩|(simp[Sto.upd,List.take_zero,List.flatten_nil,List.append_nil];done)));done))) ?_ ?_
    ·intro m hm _;have hs2:=zc Pf.full (List.getElem_mem hm);have hb:=hpl m (by omega);have hc:=ih p.args[m] (if m+1=p.args.length then v+vaK p.kind else v) (if m+1=p.args.length then y+hyK p.kind else y) (Xs++p.terms.map ((puG) v)++p.forms.map ((puH) (v+fvK p.kind))++((Pf.tfls (puG) (puH) v (vaK p.kind) p.args).take m).flatten) (by omega) (by omega) (by split<;>omega) (by split<;>omega) (hpf _ (List.getElem_mem hm)) (i3 _ (List.getElem_mem hm));have e3:(Xs++p.terms.map ((puG) v)++p.forms.map ((puH) (v+fvK p.kind))++((Pf.tfls (puG) (puH) v (vaK p.kind) p.args).take m).flatten)++p.args[m].tfl (puG) (puH) (if m+1=p.args.length then v+vaK p.kind else v)=(Xs++p.terms.map ((puG) v)++p.forms.map ((puH) (v+fvK p.kind))++((Pf.tfls (puG) (puH) v (vaK p.kind) p.args).take (m+1)).flatten):=by rw[List.append_assoc,Zf9 (puG) (puH) hm]
     rw[e3] at hc;have ev:(if(m:Int)=(x5:Int)-1 then y+hyK p.kind else y)=(if m+1=p.args.length then y+hyK p.kind else y):=by
      by_cases hx:m+1=p.args.length
      ·rw[if_pos hx,if_pos (by omega)]
      ·rw[if_neg hx,if_neg (by omega)]
     have ev2:(if(m:Int)=(x5:Int)-1 then v+vaK p.kind else v)=(if m+1=p.args.length then v+vaK p.kind else v):=by
      by_cases hx:m+1=p.args.length
      ·rw[if_pos hx,if_pos (by omega)]
      ·rw[if_neg hx,if_neg (by omega)]
     rw[ev,ev2] at hb;(repeat' first|refine M.w1 @hb ?_|refine M.cv (hc) [0,1,2] 0 ?_|fail);exact⟨rfl,trivial,(M.W rh7)⟩
    ·intro _;rw[hre];simp only[Zh9];skip
     (exact M.n2 rh3 (h6:=(by(repeat'(first|exact trivial|refine And.intro ?_ ?_|refine⟨_,U,_,U,_,U,?_⟩|exact VLe.refl _|refine⟨_,U,_,_,U,?_,?_⟩|(simp[Sto.upd,List.append_assoc];done)));done)) (h8:=(by simp[zn,V.wk,V.wks,za,Ty.view,Tm.view,List.append_assoc])))
theorem Yl5(ks:List Int):AC E 79 [.mp 0] ⟨1,[(0,.map .bl ks (List.replicate ks.length true))]⟩ (.agg [.fn (.func 80) [] [.ptr 1 0],.fn (.func 83) [] [.ptr 2 0],.nilf]) ⟨3,[(0,.map .bl ks (List.replicate ks.length true)),(1,.var [.mp 0]),(2,.var [.fn (.func 80) [] [.ptr 1 0]])]⟩:=by
 refine M.F Tryz.func79 ?_;refine M.w0 ?_;refine K.rt [some 0,some 1,some 3] rfl rfl rfl rfl rfl ?_ rfl ?_
 ·(repeat'(first|exact trivial|refine And.intro ?_ ?_|refine⟨_,U,_,U,_,U,?_⟩|exact VsLe.refl _|exact VLe.refl _|refine⟨_,U,_,_,U,?_,?_⟩|with_reducible exact rfl|exact Eq.refl true|rfl))
 ·first
   |exact VLe.refl _
   |(refine VLe.of_eq ?_;simp[zn];rfl)
theorem Yev{l:List (Int×Int)}(h:∀q∈l,(0<=q.1/\q.1<9223372036854775808)/\0<=q.2):∀x∈fre l,0<=x/\x<9223372036854775808:=by
 intro x hx;unfold fre at hx;obtain⟨q,hq,e⟩:=List.mem_filterMap.1 hx;have:=h q hq;split at e
 ·simp only[Option.some.injEq] at e;omega
 ·cases e
mutual
theorem Yek:∀(v:Int) (p:Pf),0<=v->p.ixr->∀x∈p.fvl v,0<=x/\x<9223372036854775808
 |v,.mk k i ty ts fs zs,hv,hx,x,h=>by
  obtain⟨_,i1,i2,i3⟩:=hx;simp only[Pf.fvl] at h;rcases List.mem_append.1 h with h|h
  ·rcases List.mem_append.1 h with h|h
   ·obtain ⟨t,ht,h⟩:=List.mem_flatMap.1 h;exact Yev (fun q hq=>⟨i1 t ht v q hq,by have:=wv t v q hq;omega⟩) x h
   ·obtain ⟨f,hf,h⟩:=List.mem_flatMap.1 h;obtain⟨q,hq,h⟩:=List.mem_flatMap.1 h;have b3:0<=fvK k:=by unfold fvK;split<;>omega
    exact Yev (fun r hr=>⟨i2 f hf _ q hq q.2 r hr,by have:=Zgw q hq;have:=wv q.1 q.2 r hr;omega⟩) x h
  ·exact Zws v (vaK k) zs hv (by unfold vaK;split<;>(try split)<;>omega) i3 x h
theorem Zws:∀(v w:Int) (l:List Pf),0<=v->0<=w->Pf.ixrs l->∀x∈(Pf.fvls v w l).flatten,0<=x/\x<9223372036854775808
 |_,_,[],_,_,_,x,h=>by simp[Pf.fvls] at h
 |v,w,p::l,hv,hw,hx,x,h=>by
  simp only[Pf.fvls,List.flatten_cons] at h;rcases List.mem_append.1 h with h|h
  ·exact Yek _ p (by split<;>omega) hx.1 x h
  ·exact Zws v w l hv hw hx.2 x h
end
theorem Yf2(p:Pf)(hp:p.full<274877906944)(hx:p.err=0->p.ixr):PC E 26 [.agg p.view] (.tup [.s .int (if p.err=0 then Zho p else []),.i p.err]):=by
 have h1:=Zca p hp;have hcol:PC E 68 [.agg p.view,.fn (.func 79) [] []] (.tup [.s .int (if p.err=0 then Zho p else []),.i p.err]):=by
  by_cases he:p.err=0;case neg=>
   rw[if_neg he];refine M.F Tryz.func68 ?_;(repeat' first|refine M.o1 @h1 ?_|refine M.z1 4 ?_|refine M.cs ?_ ?_<;>intro h|refine M.gk ?_|fail);all_goals first
    |rfl
    |(exfalso;simp at h;exact he h)
  obtain⟨g1,g2,g3,g4,g5,g6⟩:=Zgz he;rw[if_pos he];rw[he] at h1 ⊢;have hv:=Yl5 [];have hc:=Ylj _ p 0 0 [] (Nat.le_refl _) (by omega) (by omega) (by omega) g4 (hx he);rw[List.nil_append,Yfl] at hc;have hnd:(nub [] (p.fvl 0)).Nodup:=wc List.nodup_nil;have hwf:∀x∈nub [] (p.fvl 0),(Lit.int .i64 x).wf=true:=fun x h=>Yj2 (by
   rcases mem_nub.1 h with h|h
   ·cases h
   ·exact Yek 0 p (by omega) (hx he) x h)
  have hlen:(nub [] (p.fvl 0)).length<549755813888:=by
   have h1:=Zd1 (p.fvl 0) [];have h2:=Zn2 p 0;simp at h1;omega
  have hs:=Zik (nub [] (p.fvl 0)) hnd hwf hlen;have e:Zho p=yq (nub [] (p.fvl 0)):=rfl;rw[e];have e0:nub [] ([]:List (List Int)).flatten=[]:=rfl;rw[e0] at hc;simp only[List.length_nil,List.replicate_zero] at hc hv;generalize nub [] (p.fvl 0)=ks at*;refine M.F Tryz.func68 ?_;(repeat' first|refine M.w1 @h1 ?_|refine M.cv (hv) [1] 2 ?_|refine M.cv (hc) [2,3,1] 0 ?_|refine M.cb (hs) [1] 0 ?_|fail);all_goals first
   |rfl
   |trace_state
 generalize (if p.err=0 then Zho p else [])=R at*;refine M.F Tryz.func26 ?_;refine M.w1 @hcol ?_
 rfl
end Go.Ab
