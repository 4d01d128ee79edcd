/- A part of this seat's proofs. No conditions. -/
import Derived.Test.YtgjekifepogehaaGreatDoorPST9
namespace Go.Ab
open Go Go.Proofs
set_option maxRecDepth 100000
set_option maxHeartbeats 4000000
set_option linter.all false
def CK(v:Int)(t:Tm):List Int:=BS (t.vars v)
def C9(v:Int)(f:Fm):List Int:=f.CD v
mutual
theorem UY:∀(v:Int) (p:Pf),(p.CE CK C9 v).flatten=p.CD v
 |v,.mk k i ty ts fs zs=>by
  simp only[Pf.CE,Pf.CD,cB];rw[Zs v (Ap k) zs]
  rfl
theorem Zs:∀(v w:Int) (l:List Pf),(Pf.AN CK C9 v w l).flatten.flatten=(Pf.Cp v w l).flatten
 |_,_,[]=>rfl
 |v,w,p::l=>by
  simp only[Pf.AN,Pf.Cp,az,cB];rw[UY,Zs]
end
theorem TO(ks:List Int)(i bl ab:Int)(hi:0<=i/\i<9223372036854775808)(hb:0<=bl/\bl<1099511627776)(ha:0<=ab/\ab<1099511627776):AC E 84 [.i i,.i bl,.ptr 0 0,.ptr 1 0] ⟨3,[(0,.var [.mp 2]),(1,.var [.i ab]),(2,.map .bl ks (List.replicate ks.length true))]⟩ (.AM [])
 ⟨3,[(0,.var [.mp 2]),(1,.var [.i ab]),(2,.map .bl (Az ks (BS [(i,bl+ab)])) (List.replicate (Az ks (BS [(i,bl+ab)])).length true))]⟩:=by
 have hc:=S8 ks (i-bl-ab);have e:(if 0<=i-bl-ab then w9 (i-bl-ab) ks else ks)=Az ks (BS [(i,bl+ab)]):=by
  rw[Tt];by_cases h:bl+ab<=i
  .rw[if_pos dY,if_pos h,KR,show i-bl-ab=i-(bl+ab) by omega]
  .rw[if_neg dY,if_neg h,xl]
 rw[e] at hc;refine M.F Tryz.func84 ?_;(repeat' first|refine M.w0 ?_|refine M.cb (hc) [2] 0 ?_|fail)
 (exact M.n2 CI (h8:=fB))
theorem Ygk(ab:Int)(hab:0<=ab/\ab<1099511627776):∀(n:Nat) (t:Tm) (ks:List Int) (bl:Int),t.full<=n->n<1099511627776->0<=bl->bl+n<1099511627776->(∀p∈t.vars (bl+ab),0<=p.1/\p.1<9223372036854775808)->AC E 148 [.agg t.view,.i bl,.ptr 0 0,.ptr 1 0] ⟨5,[(0,.var [.fn (.func 84) [] [.ptr 2 0,.ptr 3 0]]),(1,.var [.fn (.func 148) [] [.ptr 0 0,.ptr 1 0]]),(2,.var [.mp 4]),(3,.var [.i ab]),(4,.map .bl ks (List.replicate ks.length true))]⟩ (.AM [])
 ⟨5,[(0,.var [.fn (.func 84) [] [.ptr 2 0,.ptr 3 0]]),(1,.var [.fn (.func 148) [] [.ptr 0 0,.ptr 1 0]]),(2,.var [.mp 4]),(3,.var [.i ab]),(4,.map .bl (Az ks (BS (t.vars (bl+ab)))) (List.replicate (Az ks (BS (t.vars (bl+ab)))).length true))]⟩:=by
 intro n;induction n with
 |zero=>intro t b bl h;have:=t.Ac;omega
 |succ n ih=>
 intro t ks bl hsz hb hbl hbn hix;have hsz':=Tm.Af t;have hlen:=zd Tm.full Tm.Ac t.args;have hv:=Tm.AU (bl+ab) t;rw[show up t.kind (bl+ab)=up t.kind bl+ab by simp only[up];split<;>omega] at hv;have hi:t.kind=1->0<=t.index/\t.index<9223372036854775808:=fun h=>by simpa using hix (t.index,bl+ab) (by rw[hv];simp[h])
 have hcb:t.kind=1->_:=fun h=>TO ks t.index bl ab (hi h) dY hab;refine M.F Tryz.func148 ?_;(repeat' first|refine M.w0 ?_|refine M.cv (hcb ek) [2,3,4] 0 ?_|refine M.cs ?_ ?_<;>intro h|fail);all_goals
  have hup:up t.kind bl<=bl+1:=eP
  have hup0:0<=up t.kind bl:=eP
  refine M.rt t.args.length
   (fun m=>([(1,.i (up t.kind bl)),(3,.ptr 1 0),(22,.s .tm t.args),(23,.i t.args.length),(24,.i m)],⟨6,[(0,.var [.fn (.func 84) [] [.ptr 2 0,.ptr 3 0]]),(1,.var [.fn (.func 148) [] [.ptr 0 0,.ptr 1 0]]),(2,.var [.mp 4]),(3,.var [.i ab]),(4,.map .bl (Az ks (BS ((if t.kind=1 then [(t.index,bl+ab)] else [])++(t.args.take m).flatMap (Tm.vars (up t.kind bl+ab))))) (List.replicate (Az ks (BS ((if t.kind=1 then [(t.index,bl+ab)] else [])++(t.args.take m).flatMap (Tm.vars (up t.kind bl+ab))))).length true)),(5,.var t.view)]⟩))
   ?_ ?_ ?_
  .simp_all only[beq_iff_eq,beq_eq_false_iff_ne,ne_eq];exact(M.W CZ (hf:=(by(repeat'(first|exact trivial|refine And.intro ?_ ?_|refine⟨_,U,_,U,?_⟩|exact Ai.refl _|exact Ai.of_eq (by simp[Aj.Aw,up, *,Ji,Ny,xl])));done)) (he:=(by(repeat'(first|exact trivial|refine And.intro ?_ ?_|refine⟨_,U,_,U,_,U,?_⟩|exact Ai.refl _|refine⟨_,U,_,_,U,?_,?_⟩|(simp[Aj.Aw,up, *,Ji,Ny,xl];done)));done)))
  .intro m hm hP;have hs2:=zc Tm.full (ZA hm);have hix':∀p∈(t.args[m]).vars (up t.kind bl+ab),0<=p.1/\p.1<9223372036854775808:=fun p hp=>hix p gD;have hc:=ih t.args[m] (Az ks (BS ((if t.kind=1 then [(t.index,bl+ab)] else [])++(t.args.take m).flatMap (Tm.vars (up t.kind bl+ab))))) (up t.kind bl) dY dY hup0 dY hix';(repeat' first|refine M.w0 ?_|refine M.cv (hc) [0,1,2,3,4] 0 ?_|fail);refine⟨rfl,trivial,?_⟩;exact(M.W CZ (he:=(by(repeat'(first|exact trivial|refine And.intro ?_ ?_|refine⟨_,U,_,U,_,U,?_⟩|exact Ai.refl _|refine⟨_,U,_,_,U,?_,?_⟩|(simp[Aj.Aw,Ji,xr,wg _ _ _ hm,<-List.append_assoc];done)));done)))
  .intro hP;skip
   (exact M.n2 DT (h6:=(by(repeat'(first|exact trivial|refine And.intro ?_ ?_|refine⟨_,U,_,U,_,U,?_⟩|exact Ai.refl _|refine⟨_,U,_,_,U,?_,?_⟩|(simp[Aj.Aw,hv];done)));done)) (h8:=iU))
theorem XU(ab:Int)(hab:0<=ab/\ab<1099511627776)(ks:List Int)(t:Tm)(ht:t.full<549755813888)(hix:∀p∈t.vars ab,0<=p.1/\p.1<9223372036854775808):AC E 83 [.agg t.view,.fn (.func 84) [] [.ptr 0 0,.ptr 1 0]] ⟨3,[(0,.var [.mp 2]),(1,.var [.i ab]),(2,.map .bl ks (List.replicate ks.length true))]⟩ (.AM []) ⟨3,[(0,.var [.mp 2]),(1,.var [.i ab]),(2,.map .bl (Az ks (BS (t.vars ab))) (List.replicate (Az ks (BS (t.vars ab))).length true))]⟩:=by
 have hc:=Ygk ab hab _ t ks 0 (ZB _) dY dY dY (by rw[cy];exact hix);rw[cy] at hc;refine M.F Tryz.func83 ?_;(repeat' first|refine M.w0 ?_|refine M.cv (hc) [4,5,0,1,2] 0 ?_|fail)
 (exact M.n2 CI (h8:=(by simp[zh,V.wk,V.An,za,Ty.view,Tm.view,JH])))
theorem Ylh(ab:Int)(hab:0<=ab/\ab<1099511627776)(ks:List Int)(t:Tm)(ht:t.full<549755813888)(hix:∀p∈t.vars ab,0<=p.1/\p.1<9223372036854775808):AC E 82 [.agg t.view,.i ab,.ptr 0 0] ⟨2,[(0,.var [.mp 1]),(1,.map .bl ks (List.replicate ks.length true))]⟩ (.AM []) ⟨2,[(0,.var [.mp 1]),(1,.map .bl (Az ks (BS (EK [(t,ab)]))) (List.replicate (Az ks (BS (EK [(t,ab)]))).length true))]⟩:=by
 have hc:=XU ab hab ks t ht hix;refine M.F Tryz.func82 ?_;(repeat' first|refine M.w0 ?_|refine M.cb (hc) [0,3,1] 0 ?_|fail)
 (exact M.n2 AQ (h6:=(by(repeat'(first|exact trivial|refine And.intro ?_ ?_|refine⟨_,U,_,U,_,U,?_⟩|exact Ai.refl _|refine⟨_,U,_,_,U,?_,?_⟩|(simp[Aj.Aw,UJ];done)));done)) (h8:=(by simp[zh,V.wk,V.An,za,Ty.view,Tm.view,UJ])))
theorem Yd3:∀(n:Nat) (f:Fm) (ks:List Int) (bl:Int),f.full<=n->n<549755813888->0<=bl->bl+n<549755813888->(∀p∈EK (f.AZ bl),0<=p.1/\p.1<9223372036854775808)->AC E 87 [.agg f.view,.i bl,.fn (.func 82) [] [.ptr 0 0]] ⟨2,[(0,.var [.mp 1]),(1,.map .bl ks (List.replicate ks.length true))]⟩ (.AM []) ⟨2,[(0,.var [.mp 1]),(1,.map .bl (Az ks (BS (EK (f.AZ bl)))) (List.replicate (Az ks (BS (EK (f.AZ bl)))).length true))]⟩:=by
 intro n;induction n with
 |zero=>intro f;intros;have:=f.Ac;omega
 |succ n ih=>
 intro f ks bl hsz hn hbl hbn hix;have hsz':=f.Af;have hlen:=zd Fm.full Fm.Ac f.args;have hlen2:=zd Tm.full Tm.Ac f.terms;have htm:=f.AY bl;have hq:=vy f.kind;refine M.F Tryz.func87 ?_;refine M.w0 ?_;refine M.rt f.terms.length
  (fun m=>([(1,.i bl),(2,.fn (.func 82) [] [.ptr 0 0]),(3,.ptr 2 0),(11,.s .tm f.terms),(12,.i f.terms.length),(13,.i m)],⟨3,[(0,.var [.mp 1]),(1,.map .bl (Az ks (BS (EK ((f.terms.take m).map (fun t=>(t,bl)))))) (List.replicate (Az ks (BS (EK ((f.terms.take m).map (fun t=>(t,bl)))))).length true)),(2,.var f.view)]⟩))
  ?_ ?_ ?_
 .exact (M.W CI (he:=(by(repeat'(first|exact trivial|refine And.intro ?_ ?_|refine⟨_,U,_,U,_,U,?_⟩|exact Ai.refl _|refine⟨_,U,_,_,U,?_,?_⟩|(simp[Aj.Aw,Zxe,Ny,xl];done)));done)))
 .intro m hm _;have hs2:=zc Tm.full (ZA hm);have hc:=Ylh bl dY (Az ks (BS (EK ((f.terms.take m).map (fun t=>(t,bl)))))) f.terms[m] dY fun p hp=>hix p (by rw[htm,Pe];exact aU _ (ZZ.2 ⟨(f.terms[m],bl),ZQ.2 ⟨_,ZA hm,rfl⟩,hp⟩));refine M.w1 @hc ?_;refine⟨rfl,trivial,?_⟩;exact(M.W CI (he:=(by(repeat'(first|exact trivial|refine And.intro ?_ ?_|refine⟨_,U,_,U,_,U,?_⟩|exact Ai.refl _|refine⟨_,U,_,_,U,?_,?_⟩|(simp[Aj.Aw,Pe,Ji,xr,zp _ _ _ hm];done)));done)))
 .intro _;simp only[ZF];(repeat' first|refine M.w1 @hq ?_|refine M.cs ?_ ?_<;>intro h|fail);all_goals
   have hup:AR f.kind bl<=bl+1:=fM
   have hup0:0<=AR f.kind bl:=fM
   refine M.rt f.args.length
    (fun m=>([(1,.i (AR f.kind bl)),(2,.fn (.func 82) [] [.ptr 0 0]),(3,.ptr 2 0),(28,.s .fm f.args),(29,.i f.args.length),(30,.i m)],⟨3,[(0,.var [.mp 1]),(1,.map .bl (Az ks (BS (EK (f.terms.map (fun t=>(t,bl))++(f.args.take m).flatMap (Fm.AZ (AR f.kind bl)))))) (List.replicate (Az ks (BS (EK (f.terms.map (fun t=>(t,bl))++(f.args.take m).flatMap (Fm.AZ (AR f.kind bl)))))).length true)),(2,.var f.view)]⟩))
    ?_ ?_ ?_
   .exact (M.W CI (hf:=(by(repeat'(first|exact trivial|refine And.intro ?_ ?_|refine⟨_,U,_,U,?_⟩|exact Ai.refl _|exact Ai.of_eq (by simp[Aj.Aw,AR,h])));done)) (he:=(by(repeat'(first|exact trivial|refine And.intro ?_ ?_|refine⟨_,U,_,U,_,U,?_⟩|exact Ai.refl _|refine⟨_,U,_,_,U,?_,?_⟩|(simp[Aj.Aw,AR,h];done)));done)))
   .intro m hm _;have hs2:=zc Fm.full (ZA hm);have hc:=ih f.args[m] (Az ks (BS (EK (f.terms.map (fun t=>(t,bl))++(f.args.take m).flatMap (Fm.AZ (AR f.kind bl)))))) (AR f.kind bl) dY dY hup0 dY fun p hp=>hix p (by rw[htm,Pe];refine aD _ ?_;obtain⟨q,hq1,hq2⟩:=ZZ.1 hp;exact ZZ.2 ⟨q,ZZ.2 ⟨_,ZA hm,hq1⟩,hq2⟩);refine M.w1 @hc ?_;refine⟨rfl,trivial,?_⟩;exact(M.W CI (he:=(by(repeat'(first|exact trivial|refine And.intro ?_ ?_|refine⟨_,U,_,U,_,U,?_⟩|exact Ai.refl _|refine⟨_,U,_,_,U,?_,?_⟩|(simp[Aj.Aw,Pe,Ji,xr,wg _ _ _ hm,<-List.append_assoc];done)));done)))
   .intro _;skip
    (exact M.n2 AQ (h6:=(by(repeat'(first|exact trivial|refine And.intro ?_ ?_|refine⟨_,U,_,U,_,U,?_⟩|exact Ai.refl _|refine⟨_,U,_,_,U,?_,?_⟩|(simp[Aj.Aw,htm];done)));done)) (h8:=iT))
theorem MU(Xs:List (List Int))(x:List Int):Az [] ((Xs++[x]).flatten)=Az (Az [] Xs.flatten) x:=by rw[cB,xr];simp
theorem VJ(Xs:List (List Int))(t:Tm)(bl:Int)(ht:t.full<549755813888)(hb:0<=bl/\bl<1099511627776)(hix:t.B7):
 AC E 82 [.agg t.view,.i bl,.ptr 0 0] ⟨3,[(0,.var [.mp 2]),(1,.var [.fn (.func 82) [] [.ptr 0 0]]),(2,.map .bl (Az [] Xs.flatten) (List.replicate (Az [] Xs.flatten).length true))]⟩ (.AM [])
  ⟨3,[(0,.var [.mp 2]),(1,.var [.fn (.func 82) [] [.ptr 0 0]]),(2,.map .bl (Az [] (Xs++[CK bl t]).flatten) (List.replicate (Az [] (Xs++[CK bl t]).flatten).length true))]⟩:=by
 have hc:=XU bl hb (Az [] Xs.flatten) t ht (hix bl);rw[MU];unfold CK;generalize Az [] Xs.flatten=ks at*;refine M.F Tryz.func82 ?_;(repeat' first|refine M.w0 ?_|refine M.cb (hc) [0,4,2] 0 ?_|fail)
 (exact M.n2 CI (h8:=fB))
theorem U1(Xs:List (List Int))(f:Fm)(bl:Int)(hf:f.full<274877906944)(hb:0<=bl/\bl<274877906944)(hix:f.B7):
 AC E 86 [.agg f.view,.i bl,.ptr 1 0] ⟨3,[(0,.var [.mp 2]),(1,.var [.fn (.func 82) [] [.ptr 0 0]]),(2,.map .bl (Az [] Xs.flatten) (List.replicate (Az [] Xs.flatten).length true))]⟩ (.AM [])
  ⟨3,[(0,.var [.mp 2]),(1,.var [.fn (.func 82) [] [.ptr 0 0]]),(2,.map .bl (Az [] (Xs++[C9 bl f]).flatten) (List.replicate (Az [] (Xs++[C9 bl f]).flatten).length true))]⟩:=by
 have hc:=Yd3 _ f (Az [] Xs.flatten) bl (ZB _) dY dY dY (fun p hp=>by
  obtain⟨q,hq,hp⟩:=ZZ.1 hp;exact hix bl q hq q.2 p hp)
 rw[UD] at hc;rw[MU];show AC E _ _ _ _ ⟨3,[_,_,(2,.map .bl (Az (Az [] Xs.flatten) ((f.AZ bl).flatMap fun p=>BS (p.1.vars p.2))) (List.replicate (Az (Az [] Xs.flatten) ((f.AZ bl).flatMap fun p=>BS (p.1.vars p.2))).length true))]⟩;generalize Az [] Xs.flatten=ks at*;generalize Az ks ((f.AZ bl).flatMap fun p=>BS (p.1.vars p.2))=ks2 at*;refine M.F Tryz.func86 ?_;(repeat' first|refine M.w0 ?_|refine M.cb (hc) [0,2] 0 ?_|fail)
 (exact M.n2 CI (h8:=fB))
theorem Yic:∀(n:Nat) (p:Pf) (v y:Int) (Xs:List (List Int)),p.full<=n->n<10000000000->(0<=v/\v+2*n<=50000000000)->(0<=y/\y+2*n<=50000000000)->p.nd->p.B7->
 AC E 112 [.agg p.view,.agg [.i v,.i y],.agg [.fn (.func 82) [] [.ptr 0 0],.fn (.func 86) [] [.ptr 1 0],.nilf]] ⟨3,[(0,.var [.mp 2]),(1,.var [.fn (.func 82) [] [.ptr 0 0]]),(2,.map .bl (Az [] Xs.flatten) (List.replicate (Az [] Xs.flatten).length true))]⟩ (.AM []) ⟨3,[(0,.var [.mp 2]),(1,.var [.fn (.func 82) [] [.ptr 0 0]]),(2,.map .bl (Az [] (Xs++p.CE (CK) (C9) v).flatten) (List.replicate (Az [] (Xs++p.CE (CK) (C9) v).flatten).length true))]⟩:=by
 intro n;induction n with
 |zero=>intro p v y Xs hz;have:=p.Ac;omega
 |succ n ih=>
 intro p v y Xs hz hn hv hh hs hix;obtain⟨_,i1,i2,i3⟩:=(Pf.Dr p).1 hix;have hre:=p.BN (CK) (C9) v;have hsz':=p.Af;have hlen:=zd Pf.full Pf.Ac p.args;have hlen1:=zd Fm.full Fm.Ac p.Aa;have hlen2:=zd Tm.full Tm.Ac p.terms;have hru:=vg p.kind;obtain⟨⟨nd,n1,n4⟩,hpf⟩:=(Pf.Bt p).1 hs;have hal:p.args.length<=2:=by
  exact j7
 have hpl:=fun(m:Nat) (hm:m<=1000000)=>xf p.kind v y nd n1 m hm dY dY;have e2:Dq p.kind=[.bool nd.index,.bool nd.typ,.i nd.terms,.i nd.Aa,.i nd.args,.i (Au p.kind),.i (Ap p.kind),.i (Ar p.kind)]:=fk
 have b1:0<=Ap p.kind/\Ap p.kind<=2:=eT
 have b2:0<=Ar p.kind/\Ar p.kind<=1:=eV
 have b3:0<=Au p.kind/\Au p.kind<=1:=eW
 rw[n1] at hru;simp only[an] at hru;rw[e2] at hru;simp only[e2] at hpl;clear n1 e2;obtain⟨x3,x4,x5,ix,x2⟩:=nd;simp only at n4 hru hpl;cases ix
 .refine M.F Tryz.func112 ?_;refine M.w1 @hru ?_;refine M.rt p.terms.length
   (fun m=>([(3,.ptr 3 0),(4,.ptr 4 0),(5,.ptr 5 0),(6,.ptr 6 0),(33,.s .tm p.terms),(34,.i p.terms.length),(35,.i m)],⟨7,[(0,.var [.mp 2]),(1,.var [.fn (.func 82) [] [.ptr 0 0]]),(2,.map .bl (Az [] (Xs++(p.terms.take m).map ((CK) v)).flatten) (List.replicate (Az [] (Xs++(p.terms.take m).map ((CK) v)).flatten).length true)),(3,.var p.view),(4,.var [.i v,.i y]),(5,.var [.fn (.func 82) [] [.ptr 0 0],.fn (.func 86) [] [.ptr 1 0],.nilf]),(6,.var [.bool false,.bool x2,.i x3,.i x4,.i x5,.i (Au p.kind),.i (Ap p.kind),.i (Ar p.kind)])]⟩))
   (M.W Fg (he:=(by(repeat'(first|exact trivial|refine And.intro ?_ ?_|refine⟨_,U,_,U,_,U,?_⟩|exact Ai.refl _|refine⟨_,U,_,_,U,?_,?_⟩|(simp[Aj.Aw,ZX,Z2,ZY];done)));done))) ?_ ?_
  .exact kj
  .intro _;simp only[ZF];refine M.w0 ?_;refine M.rt p.Aa.length
    (fun m=>([(3,.ptr 3 0),(4,.ptr 4 0),(5,.ptr 5 0),(6,.ptr 6 0),(50,.s .fm p.Aa),(51,.i p.Aa.length),(52,.i m)],⟨7,[(0,.var [.mp 2]),(1,.var [.fn (.func 82) [] [.ptr 0 0]]),(2,.map .bl (Az [] (Xs++p.terms.map ((CK) v)++(p.Aa.take m).map ((C9) (v+Au p.kind))).flatten) (List.replicate (Az [] (Xs++p.terms.map ((CK) v)++(p.Aa.take m).map ((C9) (v+Au p.kind))).flatten).length true)),(3,.var p.view),(4,.var [.i v,.i y]),(5,.var [.fn (.func 82) [] [.ptr 0 0],.fn (.func 86) [] [.ptr 1 0],.nilf]),(6,.var [.bool false,.bool x2,.i x3,.i x4,.i x5,.i (Au p.kind),.i (Ap p.kind),.i (Ar p.kind)])]⟩))
    (M.W Fg (he:=(by(repeat'(first|exact trivial|refine And.intro ?_ ?_|refine⟨_,U,_,U,_,U,?_⟩|exact Ai.refl _|refine⟨_,U,_,_,U,?_,?_⟩|(simp[Aj.Aw,ZX,Z2,ZY];done)));done))) ?_ ?_
   .exact kf
   .intro _;simp only[ZF];refine M.w0 ?_;refine M.rt p.args.length
     (fun m=>([(3,.ptr 3 0),(4,.ptr 4 0),(5,.ptr 5 0),(6,.ptr 6 0),(70,.s .pf p.args),(71,.i p.args.length),(72,.i m)],⟨7,[(0,.var [.mp 2]),(1,.var [.fn (.func 82) [] [.ptr 0 0]]),(2,.map .bl (Az [] (Xs++p.terms.map ((CK) v)++p.Aa.map ((C9) (v+Au p.kind))++((Pf.AN (CK) (C9) v (Ap p.kind) p.args).take m).flatten).flatten) (List.replicate (Az [] (Xs++p.terms.map ((CK) v)++p.Aa.map ((C9) (v+Au p.kind))++((Pf.AN (CK) (C9) v (Ap p.kind) p.args).take m).flatten).flatten).length true)),(3,.var p.view),(4,.var [.i v,.i y]),(5,.var [.fn (.func 82) [] [.ptr 0 0],.fn (.func 86) [] [.ptr 1 0],.nilf]),(6,.var [.bool false,.bool x2,.i x3,.i x4,.i x5,.i (Au p.kind),.i (Ap p.kind),.i (Ar p.kind)])]⟩))
     (M.W Fg (he:=(by(repeat'(first|exact trivial|refine And.intro ?_ ?_|refine⟨_,U,_,U,_,U,?_⟩|exact Ai.refl _|refine⟨_,U,_,_,U,?_,?_⟩|(simp[Aj.Aw,ZX,Z5,ZY];done)));done))) ?_ ?_
    .intro m hm _;have hs2:=zc Pf.full (ZA hm);have hb:=hpl m dY;have hc:=ih p.args[m] (if m+1=p.args.length then v+Ap p.kind else v) (if m+1=p.args.length then y+Ar p.kind else y) (Xs++p.terms.map ((CK) v)++p.Aa.map ((C9) (v+Au p.kind))++((Pf.AN (CK) (C9) v (Ap p.kind) p.args).take m).flatten) dY dY ez ez (hpf _ (ZA hm)) (i3 _ (ZA hm));have e3:(Xs++p.terms.map ((CK) v)++p.Aa.map ((C9) (v+Au p.kind))++((Pf.AN (CK) (C9) v (Ap p.kind) p.args).take m).flatten)++p.args[m].CE (CK) (C9) (if m+1=p.args.length then v+Ap p.kind else v)=(Xs++p.terms.map ((CK) v)++p.Aa.map ((C9) (v+Au p.kind))++((Pf.AN (CK) (C9) v (Ap p.kind) p.args).take (m+1)).flatten):=by rw[ZE,KP (CK) (C9) hm]
     rw[e3] at hc;have ev:(if(m:Int)=(x5:Int)-1 then y+Ar p.kind else y)=(if m+1=p.args.length then y+Ar p.kind else y):=by
      exact jZ
     have ev2:(if(m:Int)=(x5:Int)-1 then v+Ap p.kind else v)=(if m+1=p.args.length then v+Ap p.kind else v):=by
      exact jZ
     rw[ev,ev2] at hb;(repeat' first|refine M.w1 @hb ?_|refine M.cv (hc) [0,1,2] 0 ?_|fail);exact⟨rfl,trivial,(M.W Fg)⟩
    .exact kP
 .refine M.F Tryz.func112 ?_;refine M.w1 @hru ?_;refine M.rt p.terms.length
   (fun m=>([(3,.ptr 3 0),(4,.ptr 4 0),(5,.ptr 5 0),(6,.ptr 6 0),(33,.s .tm p.terms),(34,.i p.terms.length),(35,.i m)],⟨7,[(0,.var [.mp 2]),(1,.var [.fn (.func 82) [] [.ptr 0 0]]),(2,.map .bl (Az [] (Xs++(p.terms.take m).map ((CK) v)).flatten) (List.replicate (Az [] (Xs++(p.terms.take m).map ((CK) v)).flatten).length true)),(3,.var p.view),(4,.var [.i v,.i y]),(5,.var [.fn (.func 82) [] [.ptr 0 0],.fn (.func 86) [] [.ptr 1 0],.nilf]),(6,.var [.bool true,.bool x2,.i x3,.i x4,.i x5,.i (Au p.kind),.i (Ap p.kind),.i (Ar p.kind)])]⟩))
   (M.W Fg (he:=(by(repeat'(first|exact trivial|refine And.intro ?_ ?_|refine⟨_,U,_,U,_,U,?_⟩|exact Ai.refl _|refine⟨_,U,_,_,U,?_,?_⟩|(simp[Aj.Aw,ZX,Z2,ZY];done)));done))) ?_ ?_
  .exact kj
  .intro _;simp only[ZF];refine M.w0 ?_;refine M.rt p.Aa.length
    (fun m=>([(3,.ptr 3 0),(4,.ptr 4 0),(5,.ptr 5 0),(6,.ptr 6 0),(50,.s .fm p.Aa),(51,.i p.Aa.length),(52,.i m)],⟨7,[(0,.var [.mp 2]),(1,.var [.fn (.func 82) [] [.ptr 0 0]]),(2,.map .bl (Az [] (Xs++p.terms.map ((CK) v)++(p.Aa.take m).map ((C9) (v+Au p.kind))).flatten) (List.replicate (Az [] (Xs++p.terms.map ((CK) v)++(p.Aa.take m).map ((C9) (v+Au p.kind))).flatten).length true)),(3,.var p.view),(4,.var [.i v,.i y]),(5,.var [.fn (.func 82) [] [.ptr 0 0],.fn (.func 86) [] [.ptr 1 0],.nilf]),(6,.var [.bool true,.bool x2,.i x3,.i x4,.i x5,.i (Au p.kind),.i (Ap p.kind),.i (Ar p.kind)])]⟩))
    (M.W Fg (he:=(by(repeat'(first|exact trivial|refine And.intro ?_ ?_|refine⟨_,U,_,U,_,U,?_⟩|exact Ai.refl _|refine⟨_,U,_,_,U,?_,?_⟩|(simp[Aj.Aw,ZX,Z2,ZY];done)));done))) ?_ ?_
   .exact kf
   .intro _;simp only[ZF];refine M.w0 ?_;refine M.rt p.args.length
     (fun m=>([(3,.ptr 3 0),(4,.ptr 4 0),(5,.ptr 5 0),(6,.ptr 6 0),(70,.s .pf p.args),(71,.i p.args.length),(72,.i m)],⟨7,[(0,.var [.mp 2]),(1,.var [.fn (.func 82) [] [.ptr 0 0]]),(2,.map .bl (Az [] (Xs++p.terms.map ((CK) v)++p.Aa.map ((C9) (v+Au p.kind))++((Pf.AN (CK) (C9) v (Ap p.kind) p.args).take m).flatten).flatten) (List.replicate (Az [] (Xs++p.terms.map ((CK) v)++p.Aa.map ((C9) (v+Au p.kind))++((Pf.AN (CK) (C9) v (Ap p.kind) p.args).take m).flatten).flatten).length true)),(3,.var p.view),(4,.var [.i v,.i y]),(5,.var [.fn (.func 82) [] [.ptr 0 0],.fn (.func 86) [] [.ptr 1 0],.nilf]),(6,.var [.bool true,.bool x2,.i x3,.i x4,.i x5,.i (Au p.kind),.i (Ap p.kind),.i (Ar p.kind)])]⟩))
     (M.W Fg (he:=(by(repeat'(first|exact trivial|refine And.intro ?_ ?_|refine⟨_,U,_,U,_,U,?_⟩|exact Ai.refl _|refine⟨_,U,_,_,U,?_,?_⟩|(simp[Aj.Aw,ZX,Z5,ZY];done)));done))) ?_ ?_
    .intro m hm _;have hs2:=zc Pf.full (ZA hm);have hb:=hpl m dY;have hc:=ih p.args[m] (if m+1=p.args.length then v+Ap p.kind else v) (if m+1=p.args.length then y+Ar p.kind else y) (Xs++p.terms.map ((CK) v)++p.Aa.map ((C9) (v+Au p.kind))++((Pf.AN (CK) (C9) v (Ap p.kind) p.args).take m).flatten) dY dY ez ez (hpf _ (ZA hm)) (i3 _ (ZA hm));have e3:(Xs++p.terms.map ((CK) v)++p.Aa.map ((C9) (v+Au p.kind))++((Pf.AN (CK) (C9) v (Ap p.kind) p.args).take m).flatten)++p.args[m].CE (CK) (C9) (if m+1=p.args.length then v+Ap p.kind else v)=(Xs++p.terms.map ((CK) v)++p.Aa.map ((C9) (v+Au p.kind))++((Pf.AN (CK) (C9) v (Ap p.kind) p.args).take (m+1)).flatten):=by rw[ZE,KP (CK) (C9) hm]
     rw[e3] at hc;have ev:(if(m:Int)=(x5:Int)-1 then y+Ar p.kind else y)=(if m+1=p.args.length then y+Ar p.kind else y):=by
      exact jZ
     have ev2:(if(m:Int)=(x5:Int)-1 then v+Ap p.kind else v)=(if m+1=p.args.length then v+Ap p.kind else v):=by
      exact jZ
     rw[ev,ev2] at hb;(repeat' first|refine M.w1 @hb ?_|refine M.cv (hc) [0,1,2] 0 ?_|fail);exact⟨rfl,trivial,(M.W Fg)⟩
    .exact kP
theorem Yle(ks:List Int):AC E 81 [.mp 0] ⟨1,[(0,.map .bl ks (List.replicate ks.length true))]⟩ (.agg [.fn (.func 82) [] [.ptr 1 0],.fn (.func 86) [] [.ptr 2 0],.nilf]) ⟨3,[(0,.map .bl ks (List.replicate ks.length true)),(1,.var [.mp 0]),(2,.var [.fn (.func 82) [] [.ptr 1 0]])]⟩:=by
 refine M.F Tryz.func81 ?_;refine M.w0 ?_;refine K.rt [some 0,some 1,some 3] rfl rfl rfl rfl rfl ?_ rfl ?_
 ·exact ko
 .exact me
theorem Vn{l:List (Int×Int)}(h:∀q∈l,(0<=q.1/\q.1<9223372036854775808)/\0<=q.2):∀x∈BS l,0<=x/\x<9223372036854775808:=by
 intro x hx;unfold BS at hx;obtain⟨q,hq,e⟩:=cj.1 hx;have:=h q hq;split at e
 .simp only[ZI] at e;omega
 .cases e
mutual
theorem Zl:∀(v:Int) (p:Pf),0<=v->p.B7->∀x∈p.CD v,0<=x/\x<9223372036854775808
 |v,.mk k i ty ts fs zs,hv,hx,x,h=>by
  obtain⟨_,i1,i2,i3⟩:=hx;simp only[Pf.CD] at h;rcases ZU.1 h with h|h
  .rcases ZU.1 h with h|h
   .obtain ⟨t,ht,h⟩:=ZZ.1 h;exact Vn (fun q hq=>⟨i1 t ht v q hq,by have:=Jj t v q hq;omega⟩) x h
   .obtain ⟨f,hf,h⟩:=ZZ.1 h;obtain⟨q,hq,h⟩:=ZZ.1 h;have b3:0<=Au k:=eW
    exact Vn (fun r hr=>⟨i2 f hf _ q hq q.2 r hr,by have:=RO q hq;have:=Jj q.1 q.2 r hr;omega⟩) x h
  .exact Yq v (Ap k) zs hv eT i3 x h
theorem Yq:∀(v w:Int) (l:List Pf),0<=v->0<=w->Pf.HB l->∀x∈(Pf.Cp v w l).flatten,0<=x/\x<9223372036854775808
 |_,_,[],_,_,_,x,h=>by simp[Pf.Cp] at h
 |v,w,p::l,hv,hw,hx,x,h=>by
  simp only[Pf.Cp,az] at h;rcases ZU.1 h with h|h
  .exact Zl _ p ez hx.1 x h
  .exact Yq v w l hv hw hx.2 x h
end
theorem Yg3(p:Pf)(hp:p.full<274877906944)(hx:p.err=0->p.B7):PC E 17 [.agg p.view] (.AM [.s .int (if p.err=0 then Jm p else []),.i p.err]):=by
 have h1:=vv p hp;have hcol:PC E 80 [.agg p.view,.fn (.func 81) [] []] (.AM [.s .int (if p.err=0 then Jm p else []),.i p.err]):=by
  by_cases he:p.err=0;case neg=>
   rw[if_neg he];refine M.F Tryz.func80 ?_;(repeat' first|refine M.o1 @h1 ?_|refine M.z1 4 ?_|refine M.cs ?_ ?_<;>intro h|refine M.gk ?_|fail);all_goals first
    |rfl
    |(exfalso;simp at h;exact he h)
  obtain⟨g1,g2,g3,g4,g5,g6⟩:=vo he;rw[if_pos he];rw[he] at h1 ⊢;have hv:=Yle [];have hc:=Yic _ p 0 0 [] (ZB _) dY dY dY g4 (hx he);rw[Z3,UY] at hc;have hnd:(Az [] (p.CD 0)).Nodup:=wh bp;have hwf:∀x∈Az [] (p.CD 0),(Lit.int .i64 x).wf=true:=fun x h=>Sj (by
   rcases C1.1 h with h|h
   .cases h
   .exact Zl 0 p dY (hx he) x h)
  have hlen:(Az [] (p.CD 0)).length<549755813888:=by
   have h1:=IE (p.CD 0) [];have h2:=Q7 p 0;simp at h1;omega
  have hs:=Ss (Az [] (p.CD 0)) hnd hwf hlen;have e:Jm p=yo (Az [] (p.CD 0)):=rfl;rw[e];have e0:Az [] ([]:List (List Int)).flatten=[]:=rfl;rw[e0] at hc;simp only[Z7,bf] at hc hv;generalize Az [] (p.CD 0)=ks at*;refine M.F Tryz.func80 ?_;(repeat' first|refine M.w1 @h1 ?_|refine M.cv (hv) [1] 2 ?_|refine M.cv (hc) [2,3,1] 0 ?_|refine M.cb (hs) [1] 0 ?_|fail);all_goals first
   |rfl
   |trace_state
 generalize (if p.err=0 then Jm p else [])=R at*;refine M.F Tryz.func17 ?_;refine M.w1 @hcol ?_
 rfl
noncomputable instance Y1:DecidableEq Pf:=fun _ _=>Classical.propDecidable _
theorem Pf.eq_iff(x y:Pf):x=y↔x.kind=y.kind/\x.index=y.index/\x.ty=y.ty/\x.terms=y.terms/\x.Aa=y.Aa/\x.args=y.args:=by
 obtain⟨a,b,c,d,e,f⟩:=x;obtain⟨a',b',c',d',e',f'⟩:=y;simp only[Pf.mk.injEq]
 rfl
theorem Zol(a b:List Fm)(ha:(a.map Fm.full).sum<1099511627776):PC E 100 [.s .fm a,.s .fm b] (.bool (decide (a=b))):=by
 have hlen:=zd Fm.full Fm.Ac a;by_cases hl:a.length=b.length;case neg=>
  have e:¬a=b:=fun h=>hl (by rw[h]);rw[decide_eq_false e];refine M.F Tryz.func100 ?_;(repeat' first|refine M.o0 ?_|refine M.z1 3 ?_|refine M.cs ?_ ?_<;>intro h|refine M.gk ?_|fail);all_goals first
   |rfl
   |(exfalso;simp at h;omega)
 refine M.F Tryz.func100 ?_;(repeat' first|refine M.w0 ?_|refine M.cs ?_ ?_<;>intro h|fail)
 .exact kX
 refine M.rp a.length (fun m=>∀j (hj:j<a.length),j<m->a[j]=b[j]' dY) (fun m=>([(0,.s .fm a),(1,.s .fm b),(11,.s .fm a),(12,.i a.length),(13,.i m)],⟨0,[]⟩))
  (fun j hj h=>dY) (M.W []) ?_ ?_
 .intro m hm hP;have hm':m<b.length:=dY
  have hs2:=zc Fm.full (ZA hm);have hc:=Zzz _ a[m] b[m] (ZB _) dY;(repeat' first|refine M.w1 @hc ?_|refine M.cs ?_ ?_<;>intro h|fail)
  .exact mY
  .exact ⟨rfl,Hf hl hm hP ek,(M.W [])⟩
 .intro hP;rw[decide_eq_true (u5 hl hP)];refine M.w0 ?_
  rfl
theorem Zuu:∀(n:Nat) (x y:Pf),x.full<=n->n<1099511627776->PC E 27 [.agg x.view,.agg y.view] (.bool (decide (x=y))):=by
 intro n;induction n with
 |zero=>intro x y h;have:=x.Ac;omega
 |succ n ih=>
 intro x y hsz hb;have hsz':=x.Af;have hlen:=zd Pf.full Pf.Ac x.args;have heq:=Pf.eq_iff x y;have hty:=xp _ x.ty y.ty (ZB _) dY;have hts:=Yv x.terms y.terms dY;have hfs:=Zol x.Aa y.Aa dY;by_cases hall:x.kind=y.kind/\x.index=y.index/\x.ty=y.ty/\x.terms=y.terms/\x.Aa=y.Aa/\x.args.length=y.args.length;case neg=>
  have e:¬x=y:=fun h=>hall (by rw[h];exact⟨rfl,rfl,rfl,rfl,rfl,rfl⟩);rw[decide_eq_false e];clear ih heq e hsz';refine M.F Tryz.func27 ?_;(repeat' first|refine M.o3 @hty @hts @hfs ?_|refine M.gs ?_ ?_<;>intro h|refine M.z1 3 ?_|refine M.cs ?_ ?_<;>intro h|refine M.gk ?_|fail);all_goals first
   |rfl
   |(exfalso;simp at*;exact hall fA fA fA fA fA dY)
 obtain⟨h1,h0,h2,h3,h5,h4⟩:=hall;rw[decide_eq_true h2] at hty;rw[decide_eq_true h3] at hts;rw[decide_eq_true h5] at hfs;refine M.F Tryz.func27 ?_;(repeat' first|refine M.w3 @hty @hts @hfs ?_|refine M.gs ?_ ?_<;>intro h|refine M.cs ?_ ?_<;>intro h|fail);all_goals first
  |(exfalso;simp at h;omega)
  |(exfalso;simp at h;exact h h1)
  |(exfalso;simp at h;exact h h0)
  |skip
 refine M.rp x.args.length (fun m=>∀j (hj:j<x.args.length),j<m->x.args[j]=y.args[j]' dY) (fun m=>([(2,.ptr 0 0),(3,.ptr 1 0),(52,.s .pf x.args),(53,.i x.args.length),(54,.i m)],⟨2,[(0,.var x.view),(1,.var y.view)]⟩))
  (fun j hj h=>dY) (M.W AQ) ?_ ?_
 .intro m hm hP;have hm':m<y.args.length:=dY
  have hs2:=zc Pf.full (ZA hm);have hc:=ih x.args[m] y.args[m] dY dY;(repeat' first|refine M.w1 @hc ?_|refine M.cs ?_ ?_<;>intro h|fail)
  .have hx:¬x.args[m]=y.args[m]:=ek
   have e:¬x=y:=by rw[heq];exact fun hc=>uu hm hm' hx hc.2.2.2.2.2
   rw[decide_eq_false e];rfl
  .exact ⟨rfl,Hf h4 hm hP ek,(M.W AQ)⟩
 .intro hP;have e:x=y:=heq.2 ⟨h1,h0,h2,h3,h5,u5 h4 hP⟩;rw[decide_eq_true e];refine M.w0 ?_
  rfl
theorem Zy1:∀(n:Nat) (x y:Pf),x.full<=n->n<1099511627776->PC E 98 [.agg x.view,.agg y.view] (.bool (decide (x=y))):=by
 intro n;induction n with
 |zero=>intro x y h;have:=x.Ac;omega
 |succ n ih=>
 intro x y hsz hb;have hsz':=x.Af;have hlen:=zd Pf.full Pf.Ac x.args;have hlen1:=zd Fm.full Fm.Ac x.Aa;have hlen2:=zd Tm.full Tm.Ac x.terms;have heq:=Pf.eq_iff x y;have hty:=QV _ x.ty y.ty (ZB _) dY;by_cases hall:x.kind=y.kind/\x.index=y.index/\x.ty=y.ty/\x.terms.length=y.terms.length/\x.Aa.length=y.Aa.length/\x.args.length=y.args.length;case neg=>
  have e:¬x=y:=fun h=>hall (by rw[h];exact⟨rfl,rfl,rfl,rfl,rfl,rfl⟩);rw[decide_eq_false e];clear ih heq e hsz';refine M.F Tryz.func98 ?_;(repeat' first|refine M.o1 @hty ?_|refine M.gs ?_ ?_<;>intro h|refine M.z1 3 ?_|refine M.cs ?_ ?_<;>intro h|refine M.gk ?_|fail);all_goals first
   |rfl
   |(exfalso;simp at*;exact hall fA fA fA dY dY dY)
 obtain⟨h1,h0,h2,hl2,hl1,hl⟩:=hall;rw[decide_eq_true h2] at hty;refine M.F Tryz.func98 ?_;(repeat' first|refine M.w1 @hty ?_|refine M.gs ?_ ?_<;>intro h|refine M.cs ?_ ?_<;>intro h|fail);all_goals first
  |(exfalso;simp at h;omega)
  |(exfalso;simp at h;exact h h1)
  |(exfalso;simp at h;exact h h0)
  |skip
 refine M.rp x.terms.length (fun m=>∀j (hj:j<x.terms.length),j<m->x.terms[j]=y.terms[j]' dY)
  (fun m=>([(2,.ptr 0 0),(3,.ptr 1 0),(59,.s .tm x.terms),(60,.i x.terms.length),(61,.i m)],⟨2,[(0,.var x.view),(1,.var y.view)]⟩))
  eR (M.W AQ) ?_ ?_
 .intro m hm hP;have hm':m<y.terms.length:=dY
  have hs2:=zc Tm.full (ZA hm);have hc:=UT _ x.terms[m] y.terms[m] (ZB _) dY;(repeat' first|refine M.w1 @hc ?_|refine M.cs ?_ ?_<;>intro h|fail)
  .have:¬x=y:=by rw[heq];exact fun hc=>uu hm hm' ek hc.2.2.2.1
   simp[this,zh,za,V.wk,V.An]
  .exact ⟨rfl,Hf hl2 hm hP ek,(M.W AQ)⟩
 intro hP2;have hterms:=u5 hl2 hP2;refine M.w0 ?_;refine M.rp x.Aa.length (fun m=>∀j (hj:j<x.Aa.length),j<m->x.Aa[j]=y.Aa[j]' dY)
  (fun m=>([(2,.ptr 0 0),(3,.ptr 1 0),(76,.s .fm x.Aa),(77,.i x.Aa.length),(78,.i m)],⟨2,[(0,.var x.view),(1,.var y.view)]⟩))
  eR (M.W AQ) ?_ ?_
 .intro m hm hP;have hm':m<y.Aa.length:=dY
  have hs2:=zc Fm.full (ZA hm);have hc:=Ztr _ x.Aa[m] y.Aa[m] (ZB _) dY;(repeat' first|refine M.w1 @hc ?_|refine M.cs ?_ ?_<;>intro h|fail)
  .have:¬x=y:=by rw[heq];exact fun hc=>uu hm hm' ek hc.2.2.2.2.1
   simp[this,zh,za,V.wk,V.An]
  .exact ⟨rfl,Hf hl1 hm hP ek,(M.W AQ)⟩
 intro hP3;have hforms:=u5 hl1 hP3;refine M.w0 ?_;refine M.rp x.args.length (fun m=>∀j (hj:j<x.args.length),j<m->x.args[j]=y.args[j]' dY)
  (fun m=>([(2,.ptr 0 0),(3,.ptr 1 0),(93,.s .pf x.args),(94,.i x.args.length),(95,.i m)],⟨2,[(0,.var x.view),(1,.var y.view)]⟩))
  eR (M.W AQ) ?_ ?_
 .intro m hm hP;have hm':m<y.args.length:=dY
  have hs2:=zc Pf.full (ZA hm);(repeat' first|refine M.w0 ?_|refine M.c2 (ih _ _ ?_ ?_) ?_|refine M.cs ?_ ?_<;>intro h|exact M.le|exact M.lt|fail)
  .have:¬x=y:=by rw[heq];exact fun hc=>uu hm hm' ek hc.2.2.2.2.2
   simp[this,zh,za,V.wk,V.An]
  .exact ⟨rfl,Hf hl hm hP ek,(M.W AQ)⟩
 .intro hP;have:x=y:=heq.2 ⟨h1,h0,h2,hterms,hforms,u5 hl hP⟩;refine M.w0 ?_;simp[this,zh,za,V.wk,V.An]
theorem Ygh(x y:Pf)(h:x.full<1099511627776):PC E 26 [.agg x.view,.agg y.view] (.bool (decide (x=y))):=by
 have h1:=Zy1 _ x y (ZB _) h;refine M.F Tryz.func26 ?_;refine M.w1 @h1 ?_;simp[zh,V.wk,V.An,za,Ty.view,Tm.view]
theorem Ycz(p:Pf)(hp:p.full<549755813888):PC E 16 [.agg p.view] (.AM [.i p.num,.i p.err]):=by
 have h1:=we p hp;have h2:=NW _ p (ZB _) hp;refine M.F Tryz.func16 ?_;(repeat' first|refine M.w2 @h1 @h2 ?_|refine M.cs ?_ ?_<;>intro h|fail);all_goals simp[zh,V.wk,V.An,za,Pf.num]<;>simp_all
theorem Zip:∀(n:Nat) (p:Pf),p.full<=n->n<549755813888->p.shape=true->PC E 104 [.agg p.view,.i 536870912] (.bool p.AL):=by
 intro n;induction n with
 |zero=>intro p h;have:=p.Ac;omega
 |succ n ih=>
 intro p hsz hn hs;obtain⟨_,s4,s5,s6⟩:=zk hs;have hsz':=p.Af;have hse:=W3 p;have hlen:=zd Pf.full Pf.Ac p.args;have hlen1:=zd Fm.full Fm.Ac p.Aa;have hlen2:=zd Tm.full Tm.Ac p.terms;refine M.F Tryz.func104 ?_;refine M.w0 ?_;refine M.rp p.terms.length (fun m=>∀j (hj:j<p.terms.length),j<m->p.terms[j].near=true)
  (fun m=>([(1,.i 536870912),(2,.ptr 0 0),(12,.s .tm p.terms),(13,.i p.terms.length),(14,.i m)],⟨1,[(0,.var p.view)]⟩))
  (fun j hj h=>dY) (M.W Ay) ?_ ?_
 .intro m hm hP;have hs2:=zc Tm.full (ZA hm);have hc:=Mu 536870912 dY _ p.terms[m] (ZB _) dY (s4 _ (ZA hm));rw[<-PX] at hc;cases hb:p.terms[m].near with
  |false=>
   rw[hb] at hc;have e:p.AL=false:=by rw[hse,wb Tm.near hm hb];rfl
   rw[e];refine M.w1 @hc ?_
   rfl
  |true=>
   rw[hb] at hc;refine M.w1 @hc ?_;exact⟨rfl,ya (p:=fun t:Tm=>t.near=true) hm hP hb,(M.W Ay)⟩
 .intro hP;rw[un Tm.near p.terms fun j hj=>hP j hj hj,aH] at hse;refine M.w0 ?_;refine M.rp p.Aa.length (fun m=>∀j (hj:j<p.Aa.length),j<m->p.Aa[j].near=true)
   (fun m=>([(1,.i 536870912),(2,.ptr 0 0),(24,.s .fm p.Aa),(25,.i p.Aa.length),(26,.i m)],⟨1,[(0,.var p.view)]⟩))
   (fun j hj h=>dY) (M.W Ay) ?_ ?_
  .intro m hm hP;have hs2:=zc Fm.full (ZA hm);have hc:=VI 536870912 dY _ p.Aa[m] (ZB _) dY (s5 _ (ZA hm));rw[<-Xr] at hc;cases hb:p.Aa[m].near with
   |false=>
    rw[hb] at hc;have e:p.AL=false:=by rw[hse,wb Fm.near hm hb];rfl
    rw[e];refine M.w1 @hc ?_
    rfl
   |true=>
    rw[hb] at hc;refine M.w1 @hc ?_;exact⟨rfl,ya (p:=fun t:Fm=>t.near=true) hm hP hb,(M.W Ay)⟩
  .intro hP;rw[un Fm.near p.Aa fun j hj=>hP j hj hj,aH] at hse;refine M.w0 ?_;refine M.rp p.args.length (fun m=>∀j (hj:j<p.args.length),j<m->p.args[j].AL=true)
    (fun m=>([(1,.i 536870912),(2,.ptr 0 0),(36,.s .pf p.args),(37,.i p.args.length),(38,.i m)],⟨1,[(0,.var p.view)]⟩))
    (fun j hj h=>dY) (M.W Ay) ?_ ?_
   .intro m hm hP;have hs2:=zc Pf.full (ZA hm);have hc:=ih p.args[m] dY dY (s6 _ (ZA hm));cases hb:p.args[m].AL with
    |false=>
     rw[hb] at hc;have e:p.AL=false:=by rw[hse,wb Pf.AL hm hb]
     rw[e];refine M.w1 @hc ?_
     rfl
    |true=>
     rw[hb] at hc;refine M.w1 @hc ?_;exact⟨rfl,ya (p:=fun t:Pf=>t.AL=true) hm hP hb,(M.W Ay)⟩
   .intro hP;have e:p.AL=true:=by rw[hse];exact un Pf.AL p.args fun j hj=>hP j hj hj
    rw[e];refine M.w0 ?_
    rfl
theorem SQ(k0:Int):∀(n:Nat) (p:Pf),p.full<=n->n<549755813888->PC E 108 [.agg p.view,.i k0,.i 536870912] (.bool (p.Gj k0)):=by
 intro n;induction n with
 |zero=>intro p h;have:=p.Ac;omega
 |succ n ih=>
 intro p hsz hn;have hsz':=p.Af;have hse:=Yjr k0 p;have hlen:=zd Pf.full Pf.Ac p.args;have hL:∀m (hm:m<p.args.length),PC E 108 [.agg (p.args[m]).view,.i k0,.i 536870912] (.bool ((p.args[m]).Gj k0)):=fun m hm=>by
  have hs2:=zc Pf.full (ZA hm);exact ih p.args[m] dY dY
 clear ih;by_cases hk:p.kind=k0/\p.index>536870912
 .have e:p.Gj k0=false:=by rw[hse,if_pos hk.1,decide_eq_false dY];rfl
  rw[e];refine M.F Tryz.func108 ?_;(repeat' first|refine M.o0 ?_|refine M.gs ?_ ?_<;>intro h|refine M.z1 3 ?_|refine M.cs ?_ ?_<;>intro h|refine M.gk ?_|fail);all_goals first
   |rfl
   |(exfalso;obtain⟨hk1,hk2⟩:=hk;simp at h;omega)
   |(exfalso;obtain⟨hk1,hk2⟩:=hk;simp at h;exact h hk1)
   |trace_state
 .have e:p.Gj k0=p.args.all (Pf.Gj k0):=by
   rw[hse];by_cases h1:p.kind=k0
   .rw[if_pos h1,decide_eq_true dY,aH]
   .rw[if_neg h1,aH]
  refine M.F Tryz.func108 ?_;(repeat' first|refine M.o0 ?_|refine M.gs ?_ ?_<;>intro h|refine M.z1 3 ?_|refine M.cs ?_ ?_<;>intro h|refine M.gk ?_|fail);all_goals first
   |(exfalso;apply hk;simp_all;done)
   |skip
  all_goals
   refine M.w0 ?_;refine M.rp p.args.length (fun m=>∀j (hj:j<p.args.length),j<m->p.args[j].Gj k0=true)
    (fun m=>([(1,.i k0),(2,.i 536870912),(3,.ptr 0 0),(20,.s .pf p.args),(21,.i p.args.length),(22,.i m)],⟨1,[(0,.var p.view)]⟩))
    (fun j hj h=>dY) (M.W Ay) ?_ ?_
   .intro m hm hP;have hc:=hL m hm;cases hb:p.args[m].Gj k0 with
    |false=>
     rw[hb] at hc;rw[e,wb (Pf.Gj k0) hm hb];refine M.w1 @hc ?_
     rfl
    |true=>
     rw[hb] at hc;refine M.w1 @hc ?_;exact⟨rfl,ya (p:=fun t:Pf=>t.Gj k0=true) hm hP hb,(M.W Ay)⟩
   .intro hP;rw[e,un (Pf.Gj k0) p.args fun j hj=>hP j hj hj];refine M.w0 ?_
    rfl
theorem Ul(by_:Int)(hby:0<=by_/\by_<=100000000000):∀(n:Nat) (p:Pf) (fr v:Int),p.full<=n->n<10000000000->0<=fr->0<=v->fr+v+2*n<50000000000->p.shape=true->p.ix 549755813888->
 PC E 105 [.agg p.view,.i (fr+v),.i by_] (.agg (p.up fr by_ v).view):=by
 intro n;induction n with
 |zero=>intro p fr v h;have:=p.Ac;omega
 |succ n ih=>
 intro p fr v hsz hn h1 h2 h3 hs hix;obtain⟨x1,x2,x3⟩:=(Pf.Bq _ _).1 hix;obtain⟨nd,n1,n2,n3,n4,_⟩:=Jq hs;obtain⟨_,s4,s5,s6⟩:=zk hs;have hsz':=p.Af;have hlen:=zd Pf.full Pf.Ac p.args;have hlen1:=zd Fm.full Fm.Ac p.Aa;have hlen2:=zd Tm.full Tm.Ac p.terms;have b1:=Na p.kind;have b3:=P8 p.kind;have hmo:=Qe n1;have he:=p.GJ fr by_ v;refine M.F Tryz.func105 ?_;refine M.w0 ?_;refine M.rt p.terms.length
  (fun m=>([(1,.i (fr+v)),(2,.i by_),(3,.ptr 0 0),(6,.ptr 1 0),(7,.ptr 2 0),(22,.s .tm p.terms),(23,.i p.terms.length),(24,.i m)],⟨4,[(0,.var p.view),(1,.var [.i 0,.i 0,.i 0,.slice .nil (.t .ty []),.slice .nil (.t .tm []),.slice .nil (.t .fm []),.slice .nil (.t .pf [])]),(2,.var [.i p.kind,.i p.index,.i p.ty.kind,.s .ty p.ty.args,.slice (.own 3) (.t .tm ((p.terms.take m).map fun t=>t.re (z8 (fr+v) by_) 0)),.slice .nil (.t .fm []),.slice .nil (.t .pf [])]),(3,.row)]⟩))
  (M.W HU) ?_ ?_
 .intro m hm _;have hs2:=zc Tm.full (ZA hm);have hc:=O6 by_ dY _ p.terms[m] (fr+v) (ZB _) dY dY dY (s4 _ (ZA hm)) (x1 _ (ZA hm));refine M.w1 @hc ?_;exact⟨rfl,trivial,(M.W [some 0,some 1,some 2,some 5] (he:=(by(repeat'(first|exact trivial|exact Or.inr ⟨_,U,rfl⟩|refine And.intro ?_ ?_|refine⟨_,U,_,U,_,U,?_⟩|exact Ai.refl _|exact Ai.of_eq eL));done)))⟩
 .intro _;simp only[ZF];refine M.w0 ?_;refine M.rt p.Aa.length
   (fun m=>([(1,.i (fr+v)),(2,.i by_),(3,.ptr 0 0),(6,.ptr 1 0),(7,.ptr 2 0),(39,.s .fm p.Aa),(40,.i p.Aa.length),(41,.i m)],⟨5,[(0,.var p.view),(1,.var [.i 0,.i 0,.i 0,.slice .nil (.t .ty []),.slice .nil (.t .tm []),.slice .nil (.t .fm []),.slice .nil (.t .pf [])]),(2,.var [.i p.kind,.i p.index,.i p.ty.kind,.s .ty p.ty.args,.slice (.own 3) (.t .tm (p.terms.map fun t=>t.re (z8 (fr+v) by_) 0)),.slice (.own 4) (.t .fm ((p.Aa.take m).map fun f=>f.Bi (fr+(v+Au p.kind)) by_)),.slice .nil (.t .pf [])]),(3,.row),(4,.row)]⟩))
   (M.W HR) ?_ ?_
  .intro m hm _;have hs2:=zc Fm.full (ZA hm);have hc:=Ygu p.Aa[m] (fr+v+Au p.kind) by_ dY dY dY (s5 _ (ZA hm)) (x2 _ (ZA hm));rw[show fr+(v+Au p.kind)=fr+v+Au p.kind by omega];refine M.w2 @hmo @hc ?_;exact⟨rfl,trivial,(M.W [some 0,some 1,some 2,some 3,some 6] (he:=(by(repeat'(first|exact trivial|exact Or.inr ⟨_,U,rfl⟩|refine And.intro ?_ ?_|refine⟨_,U,_,U,_,U,?_⟩|exact Ai.refl _|exact Ai.of_eq eL));done)))⟩
  .intro _;simp only[ZF];refine M.w0 ?_;refine M.rt p.args.length
    (fun m=>([(1,.i (fr+v)),(2,.i by_),(3,.ptr 0 0),(6,.ptr 1 0),(7,.ptr 2 0),(60,.s .pf p.args),(61,.i p.args.length),(62,.i m)],⟨6,[(0,.var p.view),(1,.var [.i 0,.i 0,.i 0,.slice .nil (.t .ty []),.slice .nil (.t .tm []),.slice .nil (.t .fm []),.slice .nil (.t .pf [])]),(2,.var [.i p.kind,.i p.index,.i p.ty.kind,.s .ty p.ty.args,.slice (.own 3) (.t .tm (p.terms.map fun t=>t.re (z8 (fr+v) by_) 0)),.slice (.own 4) (.t .fm (p.Aa.map fun f=>f.Bi (fr+(v+Au p.kind)) by_)),.slice (.own 5) (.t .pf ((Pf.E3 fr by_ v (Ap p.kind) p.args).take m))]),(3,.row),(4,.row),(5,.row)]⟩))
    (M.W Mf) ?_ ?_
   .intro m hm _;have hs2:=zc Pf.full (ZA hm);have hva:=MB n1 m dY;rw[<-n4] at hva;have hc:=ih p.args[m] fr (if m+1=p.args.length then v+Ap p.kind else v) dY dY h1 ez ez (s6 _ (ZA hm)) (x3 _ (ZA hm));have et:=Ycy (fr:=fr) (b:=by_) (v:=v) (w:=Ap p.kind) hm;have ea:fr+(if m+1=p.args.length then v+Ap p.kind else v)=fr+v+(if m+1=p.args.length then Ap p.kind else 0):=ez
    have hr:0<=(if m+1=p.args.length then Ap p.kind else 0)/\(if m+1=p.args.length then Ap p.kind else 0)<=2:=ez
    rw[ea] at hc;generalize p.args[m].up fr by_ (if m+1=p.args.length then v+Ap p.kind else v)=X at*;generalize (if m+1=p.args.length then Ap p.kind else 0)=q at*;clear ea;refine M.w2 @hva @hc ?_;refine⟨rfl,trivial,?_⟩;simp only[<-et];exact(M.W [some 0,some 1,some 2,some 3,some 4,some 7])
   .intro _;simp only[Ygc];refine M.w0 ?_;rw[he]
    rfl
theorem YJ(by_:Int)(hby:0<=by_/\by_<=100000000000):∀(n:Nat) (p:Pf) (fr y:Int),p.full<=n->n<10000000000->0<=fr->0<=y->fr+y+2*n<50000000000->p.shape=true->p.hx 549755813888->
 PC E 109 [.agg p.view,.i (fr+y),.i by_] (.agg (p.lh fr by_ y).view):=by
 intro n;induction n with
 |zero=>intro p fr y h;have:=p.Ac;omega
 |succ n ih=>
 intro p fr y hsz hn h1 h2 h3 hs hix;obtain⟨x1,x2⟩:=(Pf.Br _ _).1 hix;obtain⟨nd,n1,n2,n3,n4,_⟩:=Jq hs;obtain⟨_,s4,s5,s6⟩:=zk hs;have hsz':=p.Af;have hlen:=zd Pf.full Pf.Ac p.args;have b2:=OO p.kind;have he:=p.IL fr by_ y;by_cases hk:p.kind=1
 .obtain ⟨i,rfl⟩:=Uq hs hk;have hii:0<=i/\i<549755813888:=x1 hk;rw[Yiy];clear ih he;by_cases hi:i-y>=fr
  .rw[if_pos hi];have hw:IntKind.i64.wrap (i+by_)=i+by_:=IntWalk.i64_in _ dY;unfold x8;refine M.F Tryz.func109 ?_;(repeat' first|refine M.o0 ?_|refine M.z1 3 ?_|refine M.cs ?_ ?_<;>intro h|refine M.gk ?_|fail);all_goals first
    |(exfalso;simp at h;omega)
    |skip
   skip;refine M.rt 0
    (fun m=>([(1,.i (fr+y)),(2,.i by_),(3,.ptr 0 0),(6,.ptr 1 0),(7,.ptr 2 0),(27,.s .pf []),(28,.i 0),(29,.i m)],⟨3,[(0,.var (Pf.mk 1 i (.mk 0 []) [] [] []).view),(1,.var [.i 0,.i 0,.i 0,.slice .nil (.t .ty []),.slice .nil (.t .tm []),.slice .nil (.t .fm []),.slice .nil (.t .pf [])]),(2,.var [.i 1,.i (i+by_),.i 0,.s .ty [],.s .tm [],.s .fm [],.s .pf []])]⟩))
    (M.W CI (he:=(by(repeat'(first|exact trivial|refine And.intro ?_ ?_|refine⟨_,U,_,U,_,U,?_⟩|exact Ai.refl _|exact Ai.any _ _|exact Ai.of_eq (by simp[Aj.Aw,hw,Pf.Bo])));done))) ?_ ?_
   .intro m hm;omega
   .exact kR
  .rw[if_neg hi];unfold x8;refine M.F Tryz.func109 ?_;(repeat' first|refine M.o0 ?_|refine M.z2 3 4 ?_|refine M.cs ?_ ?_<;>intro h|refine M.gk ?_|fail);all_goals first
    |(exfalso;simp at h;omega)
    |skip
   refine M.w0 ?_;refine M.rt 0
    (fun m=>([(1,.i (fr+y)),(2,.i by_),(3,.ptr 0 0),(6,.ptr 1 0),(7,.ptr 2 0),(27,.s .pf []),(28,.i 0),(29,.i m)],⟨3,[(0,.var (Pf.mk 1 i (.mk 0 []) [] [] []).view),(1,.var [.i 0,.i 0,.i 0,.slice .nil (.t .ty []),.slice .nil (.t .tm []),.slice .nil (.t .fm []),.slice .nil (.t .pf [])]),(2,.var (Pf.mk 1 i (.mk 0 []) [] [] []).view)]⟩))
    (M.W CI) ?_ ?_
   .intro m hm;omega
   .exact kR
 rw[if_neg hk] at he;have hL:∀(m:Nat) (hm:m<p.args.length),∃q,(0<=q/\q<=1)/\PC E 154 [.i p.kind,.i m] (.i q)/\
  PC E 109 [.agg (p.args[m]).view,.i (fr+y+q),.i by_] (.agg ((p.args[m]).lh fr by_ (if m+1=p.args.length then y+Ar p.kind else y)).view):=fun m hm=>by
  have hs2:=zc Pf.full (ZA hm);have hva:=Qg n1 m dY;rw[<-n4] at hva;refine⟨_,?_,hva,?_⟩
  .split<;>omega
  have hc:=ih p.args[m] fr (if m+1=p.args.length then y+Ar p.kind else y) dY dY h1 ez ez (s6 _ (ZA hm)) (x2 hk _ (ZA hm));have ea:fr+(if m+1=p.args.length then y+Ar p.kind else y)=fr+y+(if m+1=p.args.length then Ar p.kind else 0):=ez
  rw[<-ea];exact hc
 clear ih;refine M.F Tryz.func109 ?_;(repeat' first|refine M.o0 ?_|refine M.gs ?_ ?_<;>intro h|refine M.z2 3 4 ?_|refine M.cs ?_ ?_<;>intro h|refine M.gk ?_|fail);all_goals first
  |(exfalso;apply hk;simp_all;done)
  |skip
 all_goals
  refine M.w0 ?_;refine M.rt p.args.length
   (fun m=>([(1,.i (fr+y)),(2,.i by_),(3,.ptr 0 0),(6,.ptr 1 0),(7,.ptr 2 0),(27,.s .pf p.args),(28,.i p.args.length),(29,.i m)],⟨4,[(0,.var p.view),(1,.var [.i 0,.i 0,.i 0,.slice .nil (.t .ty []),.slice .nil (.t .tm []),.slice .nil (.t .fm []),.slice .nil (.t .pf [])]),(2,.var [.i p.kind,.i p.index,.i p.ty.kind,.s .ty p.ty.args,.s .tm p.terms,.s .fm p.Aa,.slice (.own 3) (.t .pf ((Pf.lhs fr by_ y (Ar p.kind) p.args).take m))]),(3,.row)]⟩))
   (M.W HU) ?_ ?_
  .intro m hm _;obtain⟨q,hq,hbo,hc⟩:=hL m hm;have et:=Ya2 (fr:=fr) (b:=by_) (v:=y) (w:=Ar p.kind) hm;generalize p.args[m].lh fr by_ (if m+1=p.args.length then y+Ar p.kind else y)=X at*;refine M.w2 @hbo @hc ?_;refine⟨rfl,trivial,?_⟩;simp only[<-et];exact(M.W [some 0,some 1,some 2,some 5])
  .intro _;simp only[Yet];refine M.w0 ?_;rw[he]
   rfl
end Go.Ab
