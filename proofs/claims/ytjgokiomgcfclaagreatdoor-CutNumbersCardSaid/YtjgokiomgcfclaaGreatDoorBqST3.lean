/- A part of the proofs of this seat. No conditions. -/
import Derived.Test.YtjgokiomgcfclaaGreatDoorBqST2
namespace Go.Ab
open Go Go.Proofs
set_option maxRecDepth 100000
set_option maxHeartbeats 4000000
set_option linter.all false
theorem VP(n:Int)(b:Bool)(sz ti k:Int)(hs:0<=sz/\sz<=4096)(ht:0<=ti/\ti<=4096)(hk:1<=k/\k<=4096)(hn:0<=n/\n<=17000000000000000):
 AC E 248 [.ptr 0 0,.i sz,.i ti,.i k,.i 4096] ⟨1,[(0,.var [.i n,.bool b])]⟩ (.At []) ⟨1,[(0,.var [.i (n+ti*(k-1)),.bool (b||decide (sz+ti*(k-1)>4096))])]⟩:=by
 have h3:0<=ti*(k-1):=Int.mul_nonneg ht.1 (by omega);have h4:ti*(k-1)<=4096*4095:=Int.mul_le_mul ht.2 (by omega) (by omega) (by omega);have hm': -9223372036854775808<=ti*(k-1)/\ti*(k-1)<=9223372036854775807:=by omega
 cases b;all_goals
  refine M.F Tryz.func248 ?_;(repeat' first|refine M.gw ?_|fail)
  (exact M.n2 [some 0] (h8:=(by simp[zi,V.wk,V.An,zd,Ty.view,Tm.view,Bool.true_or,Bool.false_or])))
theorem WM(a k n0:Int)(ha:0<=a/\a<=4096)(hk:1<=k/\k<=4096)(hn0:0<=n0/\n0<=1000000)(Xs:List (Int×Int))(t:Tm)(bl:Int)(he:t.err=0)(hb:0<=bl/\bl<100000000000)(hix:∀p∈t.vars 0,0<=p.1/\p.1<1099511627776)(hg:CY (Xs++[BI a bl t])):
 AC E 247 [.agg t.view,.i bl,.ptr 0 0,.ptr 1 0,.ptr 2 0] ⟨4,[(0,.var [.ptr 3 0]),(1,.var [.i a]),(2,.var [.i k]),(3,.var [.i (CM n0 k Xs),.bool (C1 k Xs)])]⟩ (.At [])
  ⟨4,[(0,.var [.ptr 3 0]),(1,.var [.i a]),(2,.var [.i k]),(3,.var [.i (CM n0 k (Xs++[BI a bl t])),.bool (C1 k (Xs++[BI a bl t]))])]⟩:=by
 have hf:=yo he;have h1:=L7 t (by omega);rw[he,show t.num=t.size by unfold Tm.num;rw[if_pos he]] at h1;have h2:=Qt t (a+bl) (by omega) hix;have hx:=(hg.1 (BI a bl t) (by simp));have hp:=CY.pre (List.prefix_append Xs [BI a bl t]) hg;have hbd:=R6 (n:=n0) hk hn0 hp;have hl:=hp.2;rw[Zs,WA];simp only[BI] at hx ⊢;have h3:=VP (CM n0 k Xs) (C1 k Xs) t.size (cnt (a+bl) (t.vars 0)) k hx.1 hx.2 hk (by omega);obtain⟨N0,e1⟩:∃x,x=CM n0 k Xs:=⟨_,rfl⟩;obtain⟨B0,e2⟩:∃x,x=C1 k Xs:=⟨_,rfl⟩;rw[<-e1,<-e2] at h3;rw[<-e1,<-e2];clear e1 e2 hbd hp hg hx hl;refine M.F Tryz.func247 ?_;(repeat' first|refine M.gw ?_|refine M.c2 (h1) ?_|refine M.c2 (h2) ?_|refine M.cb (h3) [3] 0 ?_|fail)
 (exact M.n2 [some 0,some 1,some 2,some 3] (h8:=(by simp[zi,V.wk,V.An,zd,Ty.view,Tm.view,h1])))
theorem VW(a k n0:Int)(ha:0<=a/\a<=4096)(hk:1<=k/\k<=4096)(hn0:0<=n0/\n0<=1000000)(Xs:List (Int×Int))(t:Fm)(bl:Int)(he:t.err=0)(hb:0<=bl/\bl<100000000000)(hix:∀p∈t.AZ 0,∀q∈p.1.vars 0,0<=q.1/\q.1<1099511627776)(hg:CY (Xs++[BM a bl t])):
 AC E 249 [.agg t.view,.i bl,.ptr 0 0,.ptr 1 0,.ptr 2 0] ⟨4,[(0,.var [.ptr 3 0]),(1,.var [.i a]),(2,.var [.i k]),(3,.var [.i (CM n0 k Xs),.bool (C1 k Xs)])]⟩ (.At [])
  ⟨4,[(0,.var [.ptr 3 0]),(1,.var [.i a]),(2,.var [.i k]),(3,.var [.i (CM n0 k (Xs++[BM a bl t])),.bool (C1 k (Xs++[BM a bl t]))])]⟩:=by
 have hf:=ye he;have h1:=NO t (by omega);rw[he,show t.num=t.size by unfold Fm.num;rw[if_pos he]] at h1;have h2:=VI t (a+bl) (by omega) (by omega) hix;have hx:=(hg.1 (BM a bl t) (by simp));have hp:=CY.pre (List.prefix_append Xs [BM a bl t]) hg;have hbd:=R6 (n:=n0) hk hn0 hp;have hl:=hp.2;rw[Zs,WA];simp only[BM] at hx ⊢;have h3:=VP (CM n0 k Xs) (C1 k Xs) t.size (w6 (a+bl) (t.AZ 0)) k hx.1 hx.2 hk (by omega);obtain⟨N0,e1⟩:∃x,x=CM n0 k Xs:=⟨_,rfl⟩;obtain⟨B0,e2⟩:∃x,x=C1 k Xs:=⟨_,rfl⟩;rw[<-e1,<-e2] at h3;rw[<-e1,<-e2];clear e1 e2 hbd hp hg hx hl;refine M.F Tryz.func249 ?_;(repeat' first|refine M.gw ?_|refine M.c2 (h1) ?_|refine M.c2 (h2) ?_|refine M.cb (h3) [3] 0 ?_|fail)
 (exact M.n2 [some 0,some 1,some 2,some 3] (h8:=(by simp[zi,V.wk,V.An,zd,Ty.view,Tm.view,h1])))
theorem Ynd(a k n0:Int)(ha:0<=a/\a<=4096)(hk:1<=k/\k<=4096)(hn0:0<=n0/\n0<=1000000):∀(n:Nat) (p:Pf) (v y:Int) (Xs:List (Int×Int)),p.full<=n->n<10000000000->(0<=v/\v+2*n<=50000000000)->(0<=y/\y+2*n<=50000000000)->p.nd->p.ix 1099511627776->p.shape=true->p.small=true->CY (Xs++p.DB (BI a) (BM a) v)->
 AC E 84 [.agg p.view,.agg [.i v,.i y],.agg [.fn (.func 247) [] [.ptr 0 0,.ptr 1 0,.ptr 2 0],.fn (.func 249) [] [.ptr 0 0,.ptr 1 0,.ptr 2 0],.nilf]] ⟨4,[(0,.var [.ptr 3 0]),(1,.var [.i a]),(2,.var [.i k]),(3,.var [.i (CM n0 k Xs),.bool (C1 k Xs)])]⟩ (.At []) ⟨4,[(0,.var [.ptr 3 0]),(1,.var [.i a]),(2,.var [.i k]),(3,.var [.i (CM n0 k (Xs++p.DB (BI a) (BM a) v)),.bool (C1 k (Xs++p.DB (BI a) (BM a) v))])]⟩:=by
 intro n;induction n with
 |zero=>intro p v y Xs hz;have:=p.Aa;omega
 |succ n ih=>
 intro p v y Xs hz hn hv hh hs hix hsh hsm hg;obtain⟨i1,i2,i3⟩:=(Pf.BA _ p).1 hix;obtain⟨s1,s2,s3⟩:=wh hsm;obtain⟨_,s4,s5,s6⟩:=zl hsh;have te:∀t∈p.terms,t.err=0:=fun t h=>(Tm.Ae t).2 ⟨s4 t h,s1 t h⟩;have fe:∀t∈p.Ad,t.err=0:=fun t h=>(Fm.Ae t).2 ⟨s5 t h,s2 t h⟩;have hg0:=hg;rw[p.Co (BI a) (BM a) v] at hg;have hre:=p.Co (BI a) (BM a) v;have hsz':=p.Ag;have hlen:=zg Pf.full Pf.Aa p.args;have hlen1:=zg Fm.full Fm.Aa p.Ad;have hlen2:=zg Tm.full Tm.Aa p.terms;have hru:=ul p.kind;obtain⟨⟨nd,n1,n4⟩,hpf⟩:=(Pf.BL p).1 hs;have hal:p.args.length<=2:=by
  rw[n4];unfold BX at n1
  repeat(split at n1;· cases n1;decide)
  cases n1
 have hpl:=fun(m:Nat) (hm:m<=1000000)=>xp p.kind v y nd n1 m hm (by omega) (by omega);have e2:C2 p.kind=[.bool nd.index,.bool nd.typ,.i nd.terms,.i nd.Ad,.i nd.args,.i (AK p.kind),.i (Az p.kind),.i (Ay p.kind)]:=by unfold C2;rw[n1]
 have b1:0<=Az p.kind/\Az p.kind<=2:=by unfold Az;split<;>(try split)<;>omega
 have b2:0<=Ay p.kind/\Ay p.kind<=1:=by unfold Ay;split<;>omega
 have b3:0<=AK p.kind/\AK p.kind<=1:=by unfold AK;split<;>omega
 rw[n1] at hru;simp only[Option.isSome_some] at hru;rw[e2] at hru;simp only[e2] at hpl;clear n1 e2;obtain⟨x3,x4,x5,ix,x2⟩:=nd;simp only at n4 hru hpl;cases ix
 ·refine M.F Tryz.func84 ?_;(repeat' first|refine M.gw ?_|refine M.c2 (hru) ?_|fail);refine AW.range p.terms.length (fun m=>True)
   (fun m=>([(3,.ptr 4 0),(4,.ptr 5 0),(5,.ptr 6 0),(6,.ptr 7 0),(33,.s .tm p.terms),(34,.i p.terms.length),(35,.i m)],⟨8,[(0,.var [.ptr 3 0]),(1,.var [.i a]),(2,.var [.i k]),(3,.var [.i (CM n0 k (Xs++(p.terms.take m).map ((BI a) v))),.bool (C1 k (Xs++(p.terms.take m).map ((BI a) v)))]),(4,.var p.view),(5,.var [.i v,.i y]),(6,.var [.fn (.func 247) [] [.ptr 0 0,.ptr 1 0,.ptr 2 0],.fn (.func 249) [] [.ptr 0 0,.ptr 1 0,.ptr 2 0],.nilf]),(7,.var [.bool false,.bool x2,.i x3,.i x4,.i x5,.i (AK p.kind),.i (Az p.kind),.i (Ay p.kind)])]⟩))
   (by omega) (fun m=>rfl) (fun m=>rfl) U trivial (M.W [some 0,some 1,some 2,some 3,some 4,some 5,some 6,some 7] (he:=(by(repeat'(first|exact trivial|refine And.intro ?_ ?_|refine⟨_,U,_,U,_,U,?_⟩|exact Aj.refl _|exact Aj.of_eq (by simp[Ao.Ar,List.take_zero,List.map_nil,List.append_nil])));done))) ?_ ?_
  ·intro m hm _;have hs2:=ze Tm.full (List.getElem_mem hm);have hc:=WM a k n0 ha hk hn0 (Xs++(p.terms.take m).map ((BI a) v)) p.terms[m] v (te _ (List.getElem_mem hm)) (by omega) (i1 _ (List.getElem_mem hm)) (CY.pre (by have:=OO Xs (p.Ad.map ((BM a) (v+AK p.kind))++(Pf.Bo (BI a) (BM a) v (Az p.kind) p.args).flatten) p.terms ((BI a) v) m hm;simpa only[List.append_assoc] using this) hg);(repeat' first|refine M.gw ?_|refine M.cv (hc) [0,1,2,3] 0 ?_|fail);exact⟨rfl,trivial,(M.W [some 0,some 1,some 2,some 3,some 4,some 5,some 6,some 7] (he:=(by(repeat'(first|exact trivial|refine And.intro ?_ ?_|refine⟨_,U,_,U,_,U,?_⟩|exact Aj.refl _|exact Aj.of_eq (by simp[Ao.Ar,ya _ _ _ hm,List.append_assoc])));done)))⟩
  ·intro _;simp only[List.take_length];(repeat' first|refine M.gw ?_|fail);refine AW.range p.Ad.length (fun m=>True)
    (fun m=>([(3,.ptr 4 0),(4,.ptr 5 0),(5,.ptr 6 0),(6,.ptr 7 0),(50,.s .fm p.Ad),(51,.i p.Ad.length),(52,.i m)],⟨8,[(0,.var [.ptr 3 0]),(1,.var [.i a]),(2,.var [.i k]),(3,.var [.i (CM n0 k (Xs++p.terms.map ((BI a) v)++(p.Ad.take m).map ((BM a) (v+AK p.kind)))),.bool (C1 k (Xs++p.terms.map ((BI a) v)++(p.Ad.take m).map ((BM a) (v+AK p.kind))))]),(4,.var p.view),(5,.var [.i v,.i y]),(6,.var [.fn (.func 247) [] [.ptr 0 0,.ptr 1 0,.ptr 2 0],.fn (.func 249) [] [.ptr 0 0,.ptr 1 0,.ptr 2 0],.nilf]),(7,.var [.bool false,.bool x2,.i x3,.i x4,.i x5,.i (AK p.kind),.i (Az p.kind),.i (Ay p.kind)])]⟩))
    (by omega) (fun m=>rfl) (fun m=>rfl) U trivial (M.W [some 0,some 1,some 2,some 3,some 4,some 5,some 6,some 7] (he:=(by(repeat'(first|exact trivial|refine And.intro ?_ ?_|refine⟨_,U,_,U,_,U,?_⟩|exact Aj.refl _|exact Aj.of_eq (by simp[Ao.Ar,List.take_zero,List.map_nil,List.append_nil])));done))) ?_ ?_
   ·intro m hm _;have hs2:=ze Fm.full (List.getElem_mem hm);have hc:=VW a k n0 ha hk hn0 (Xs++p.terms.map ((BI a) v)++(p.Ad.take m).map ((BM a) (v+AK p.kind))) p.Ad[m] (v+AK p.kind) (fe _ (List.getElem_mem hm)) (by omega) (i2 _ (List.getElem_mem hm)) (CY.pre (by have:=OO (Xs++p.terms.map ((BI a) v)) ((Pf.Bo (BI a) (BM a) v (Az p.kind) p.args).flatten) p.Ad ((BM a) (v+AK p.kind)) m hm;simpa only[List.append_assoc] using this) hg);(repeat' first|refine M.gw ?_|refine M.cv (hc) [0,1,2,3] 0 ?_|fail);exact⟨rfl,trivial,(M.W [some 0,some 1,some 2,some 3,some 4,some 5,some 6,some 7] (he:=(by(repeat'(first|exact trivial|refine And.intro ?_ ?_|refine⟨_,U,_,U,_,U,?_⟩|exact Aj.refl _|exact Aj.of_eq (by simp[Ao.Ar,ya _ _ _ hm,List.append_assoc])));done)))⟩
   ·intro _;simp only[List.take_length];(repeat' first|refine M.gw ?_|fail);refine AW.range p.args.length (fun m=>True)
     (fun m=>([(3,.ptr 4 0),(4,.ptr 5 0),(5,.ptr 6 0),(6,.ptr 7 0),(70,.s .pf p.args),(71,.i p.args.length),(72,.i m)],⟨8,[(0,.var [.ptr 3 0]),(1,.var [.i a]),(2,.var [.i k]),(3,.var [.i (CM n0 k (Xs++p.terms.map ((BI a) v)++p.Ad.map ((BM a) (v+AK p.kind))++((Pf.Bo (BI a) (BM a) v (Az p.kind) p.args).take m).flatten)),.bool (C1 k (Xs++p.terms.map ((BI a) v)++p.Ad.map ((BM a) (v+AK p.kind))++((Pf.Bo (BI a) (BM a) v (Az p.kind) p.args).take m).flatten))]),(4,.var p.view),(5,.var [.i v,.i y]),(6,.var [.fn (.func 247) [] [.ptr 0 0,.ptr 1 0,.ptr 2 0],.fn (.func 249) [] [.ptr 0 0,.ptr 1 0,.ptr 2 0],.nilf]),(7,.var [.bool false,.bool x2,.i x3,.i x4,.i x5,.i (AK p.kind),.i (Az p.kind),.i (Ay p.kind)])]⟩))
     (by omega) (fun m=>rfl) (fun m=>rfl) U trivial (M.W [some 0,some 1,some 2,some 3,some 4,some 5,some 6,some 7] (he:=(by(repeat'(first|exact trivial|refine And.intro ?_ ?_|refine⟨_,U,_,U,_,U,?_⟩|exact Aj.refl _|exact Aj.of_eq (by simp[Ao.Ar,List.take_zero,List.flatten_nil,List.append_nil])));done))) ?_ ?_
    ·intro m hm _;have hs2:=ze Pf.full (List.getElem_mem hm);have hb:=hpl m (by omega);have hc:=ih p.args[m] (if m+1=p.args.length then v+Az p.kind else v) (if m+1=p.args.length then y+Ay p.kind else y) (Xs++p.terms.map ((BI a) v)++p.Ad.map ((BM a) (v+AK p.kind))++((Pf.Bo (BI a) (BM a) v (Az p.kind) p.args).take m).flatten) (by omega) (by omega) (by split<;>omega) (by split<;>omega) (hpf _ (List.getElem_mem hm)) (i3 _ (List.getElem_mem hm)) (s6 _ (List.getElem_mem hm)) (s3 _ (List.getElem_mem hm)) (CY.pre (by have:=Qj (Xs++p.terms.map ((BI a) v)++p.Ad.map ((BM a) (v+AK p.kind))) (Pf.Bo (BI a) (BM a) v (Az p.kind) p.args) m (by rw[HX];exact hm);rw[IY _ _ _ _ _ _ hm] at this;simpa only[List.append_assoc] using this) hg);have e3:(Xs++p.terms.map ((BI a) v)++p.Ad.map ((BM a) (v+AK p.kind))++((Pf.Bo (BI a) (BM a) v (Az p.kind) p.args).take m).flatten)++p.args[m].DB (BI a) (BM a) (if m+1=p.args.length then v+Az p.kind else v)=(Xs++p.terms.map ((BI a) v)++p.Ad.map ((BM a) (v+AK p.kind))++((Pf.Bo (BI a) (BM a) v (Az p.kind) p.args).take (m+1)).flatten):=by rw[List.append_assoc,Pt (BI a) (BM a) hm]
     rw[e3] at hc;have ev:(if(m:Int)=(x5:Int)-1 then y+Ay p.kind else y)=(if m+1=p.args.length then y+Ay p.kind else y):=by
      by_cases hx:m+1=p.args.length
      ·rw[if_pos hx,if_pos (by omega)]
      ·rw[if_neg hx,if_neg (by omega)]
     have ev2:(if(m:Int)=(x5:Int)-1 then v+Az p.kind else v)=(if m+1=p.args.length then v+Az p.kind else v):=by
      by_cases hx:m+1=p.args.length
      ·rw[if_pos hx,if_pos (by omega)]
      ·rw[if_neg hx,if_neg (by omega)]
     rw[ev,ev2] at hb;(repeat' first|refine M.gw ?_|refine M.c2 (hb) ?_|refine M.cv (hc) [0,1,2,3] 0 ?_|fail);exact⟨rfl,trivial,(M.W [some 0,some 1,some 2,some 3,some 4,some 5,some 6,some 7])⟩
    ·intro _;rw[hre];simp only[Qh];skip
     (exact M.n2 [some 0,some 1,some 2,some 3] (h6:=(by(repeat'(first|exact trivial|refine And.intro ?_ ?_|refine⟨_,U,_,U,_,U,?_⟩|exact Aj.refl _|exact Aj.of_eq (by simp[Ao.Ar,List.append_assoc])));done)) (h8:=(by simp[zi,V.wk,V.An,zd,Ty.view,Tm.view,List.append_assoc])))
 ·refine M.F Tryz.func84 ?_;(repeat' first|refine M.gw ?_|refine M.c2 (hru) ?_|fail);refine AW.range p.terms.length (fun m=>True)
   (fun m=>([(3,.ptr 4 0),(4,.ptr 5 0),(5,.ptr 6 0),(6,.ptr 7 0),(33,.s .tm p.terms),(34,.i p.terms.length),(35,.i m)],⟨8,[(0,.var [.ptr 3 0]),(1,.var [.i a]),(2,.var [.i k]),(3,.var [.i (CM n0 k (Xs++(p.terms.take m).map ((BI a) v))),.bool (C1 k (Xs++(p.terms.take m).map ((BI a) v)))]),(4,.var p.view),(5,.var [.i v,.i y]),(6,.var [.fn (.func 247) [] [.ptr 0 0,.ptr 1 0,.ptr 2 0],.fn (.func 249) [] [.ptr 0 0,.ptr 1 0,.ptr 2 0],.nilf]),(7,.var [.bool true,.bool x2,.i x3,.i x4,.i x5,.i (AK p.kind),.i (Az p.kind),.i (Ay p.kind)])]⟩))
   (by omega) (fun m=>rfl) (fun m=>rfl) U trivial (M.W [some 0,some 1,some 2,some 3,some 4,some 5,some 6,some 7] (he:=(by(repeat'(first|exact trivial|refine And.intro ?_ ?_|refine⟨_,U,_,U,_,U,?_⟩|exact Aj.refl _|exact Aj.of_eq (by simp[Ao.Ar,List.take_zero,List.map_nil,List.append_nil])));done))) ?_ ?_
  ·intro m hm _;have hs2:=ze Tm.full (List.getElem_mem hm);have hc:=WM a k n0 ha hk hn0 (Xs++(p.terms.take m).map ((BI a) v)) p.terms[m] v (te _ (List.getElem_mem hm)) (by omega) (i1 _ (List.getElem_mem hm)) (CY.pre (by have:=OO Xs (p.Ad.map ((BM a) (v+AK p.kind))++(Pf.Bo (BI a) (BM a) v (Az p.kind) p.args).flatten) p.terms ((BI a) v) m hm;simpa only[List.append_assoc] using this) hg);(repeat' first|refine M.gw ?_|refine M.cv (hc) [0,1,2,3] 0 ?_|fail);exact⟨rfl,trivial,(M.W [some 0,some 1,some 2,some 3,some 4,some 5,some 6,some 7] (he:=(by(repeat'(first|exact trivial|refine And.intro ?_ ?_|refine⟨_,U,_,U,_,U,?_⟩|exact Aj.refl _|exact Aj.of_eq (by simp[Ao.Ar,ya _ _ _ hm,List.append_assoc])));done)))⟩
  ·intro _;simp only[List.take_length];(repeat' first|refine M.gw ?_|fail);refine AW.range p.Ad.length (fun m=>True)
    (fun m=>([(3,.ptr 4 0),(4,.ptr 5 0),(5,.ptr 6 0),(6,.ptr 7 0),(50,.s .fm p.Ad),(51,.i p.Ad.length),(52,.i m)],⟨8,[(0,.var [.ptr 3 0]),(1,.var [.i a]),(2,.var [.i k]),(3,.var [.i (CM n0 k (Xs++p.terms.map ((BI a) v)++(p.Ad.take m).map ((BM a) (v+AK p.kind)))),.bool (C1 k (Xs++p.terms.map ((BI a) v)++(p.Ad.take m).map ((BM a) (v+AK p.kind))))]),(4,.var p.view),(5,.var [.i v,.i y]),(6,.var [.fn (.func 247) [] [.ptr 0 0,.ptr 1 0,.ptr 2 0],.fn (.func 249) [] [.ptr 0 0,.ptr 1 0,.ptr 2 0],.nilf]),(7,.var [.bool true,.bool x2,.i x3,.i x4,.i x5,.i (AK p.kind),.i (Az p.kind),.i (Ay p.kind)])]⟩))
    (by omega) (fun m=>rfl) (fun m=>rfl) U trivial (M.W [some 0,some 1,some 2,some 3,some 4,some 5,some 6,some 7] (he:=(by(repeat'(first|exact trivial|refine And.intro ?_ ?_|refine⟨_,U,_,U,_,U,?_⟩|exact Aj.refl _|exact Aj.of_eq (by simp[Ao.Ar,List.take_zero,List.map_nil,List.append_nil])));done))) ?_ ?_
   ·intro m hm _;have hs2:=ze Fm.full (List.getElem_mem hm);have hc:=VW a k n0 ha hk hn0 (Xs++p.terms.map ((BI a) v)++(p.Ad.take m).map ((BM a) (v+AK p.kind))) p.Ad[m] (v+AK p.kind) (fe _ (List.getElem_mem hm)) (by omega) (i2 _ (List.getElem_mem hm)) (CY.pre (by have:=OO (Xs++p.terms.map ((BI a) v)) ((Pf.Bo (BI a) (BM a) v (Az p.kind) p.args).flatten) p.Ad ((BM a) (v+AK p.kind)) m hm;simpa only[List.append_assoc] using this) hg);(repeat' first|refine M.gw ?_|refine M.cv (hc) [0,1,2,3] 0 ?_|fail);exact⟨rfl,trivial,(M.W [some 0,some 1,some 2,some 3,some 4,some 5,some 6,some 7] (he:=(by(repeat'(first|exact trivial|refine And.intro ?_ ?_|refine⟨_,U,_,U,_,U,?_⟩|exact Aj.refl _|exact Aj.of_eq (by simp[Ao.Ar,ya _ _ _ hm,List.append_assoc])));done)))⟩
   ·intro _;simp only[List.take_length];(repeat' first|refine M.gw ?_|fail);refine AW.range p.args.length (fun m=>True)
     (fun m=>([(3,.ptr 4 0),(4,.ptr 5 0),(5,.ptr 6 0),(6,.ptr 7 0),(70,.s .pf p.args),(71,.i p.args.length),(72,.i m)],⟨8,[(0,.var [.ptr 3 0]),(1,.var [.i a]),(2,.var [.i k]),(3,.var [.i (CM n0 k (Xs++p.terms.map ((BI a) v)++p.Ad.map ((BM a) (v+AK p.kind))++((Pf.Bo (BI a) (BM a) v (Az p.kind) p.args).take m).flatten)),.bool (C1 k (Xs++p.terms.map ((BI a) v)++p.Ad.map ((BM a) (v+AK p.kind))++((Pf.Bo (BI a) (BM a) v (Az p.kind) p.args).take m).flatten))]),(4,.var p.view),(5,.var [.i v,.i y]),(6,.var [.fn (.func 247) [] [.ptr 0 0,.ptr 1 0,.ptr 2 0],.fn (.func 249) [] [.ptr 0 0,.ptr 1 0,.ptr 2 0],.nilf]),(7,.var [.bool true,.bool x2,.i x3,.i x4,.i x5,.i (AK p.kind),.i (Az p.kind),.i (Ay p.kind)])]⟩))
     (by omega) (fun m=>rfl) (fun m=>rfl) U trivial (M.W [some 0,some 1,some 2,some 3,some 4,some 5,some 6,some 7] (he:=(by(repeat'(first|exact trivial|refine And.intro ?_ ?_|refine⟨_,U,_,U,_,U,?_⟩|exact Aj.refl _|exact Aj.of_eq (by simp[Ao.Ar,List.take_zero,List.flatten_nil,List.append_nil])));done))) ?_ ?_
    ·intro m hm _;have hs2:=ze Pf.full (List.getElem_mem hm);have hb:=hpl m (by omega);have hc:=ih p.args[m] (if m+1=p.args.length then v+Az p.kind else v) (if m+1=p.args.length then y+Ay p.kind else y) (Xs++p.terms.map ((BI a) v)++p.Ad.map ((BM a) (v+AK p.kind))++((Pf.Bo (BI a) (BM a) v (Az p.kind) p.args).take m).flatten) (by omega) (by omega) (by split<;>omega) (by split<;>omega) (hpf _ (List.getElem_mem hm)) (i3 _ (List.getElem_mem hm)) (s6 _ (List.getElem_mem hm)) (s3 _ (List.getElem_mem hm)) (CY.pre (by have:=Qj (Xs++p.terms.map ((BI a) v)++p.Ad.map ((BM a) (v+AK p.kind))) (Pf.Bo (BI a) (BM a) v (Az p.kind) p.args) m (by rw[HX];exact hm);rw[IY _ _ _ _ _ _ hm] at this;simpa only[List.append_assoc] using this) hg);have e3:(Xs++p.terms.map ((BI a) v)++p.Ad.map ((BM a) (v+AK p.kind))++((Pf.Bo (BI a) (BM a) v (Az p.kind) p.args).take m).flatten)++p.args[m].DB (BI a) (BM a) (if m+1=p.args.length then v+Az p.kind else v)=(Xs++p.terms.map ((BI a) v)++p.Ad.map ((BM a) (v+AK p.kind))++((Pf.Bo (BI a) (BM a) v (Az p.kind) p.args).take (m+1)).flatten):=by rw[List.append_assoc,Pt (BI a) (BM a) hm]
     rw[e3] at hc;have ev:(if(m:Int)=(x5:Int)-1 then y+Ay p.kind else y)=(if m+1=p.args.length then y+Ay p.kind else y):=by
      by_cases hx:m+1=p.args.length
      ·rw[if_pos hx,if_pos (by omega)]
      ·rw[if_neg hx,if_neg (by omega)]
     have ev2:(if(m:Int)=(x5:Int)-1 then v+Az p.kind else v)=(if m+1=p.args.length then v+Az p.kind else v):=by
      by_cases hx:m+1=p.args.length
      ·rw[if_pos hx,if_pos (by omega)]
      ·rw[if_neg hx,if_neg (by omega)]
     rw[ev,ev2] at hb;(repeat' first|refine M.gw ?_|refine M.c2 (hb) ?_|refine M.cv (hc) [0,1,2,3] 0 ?_|fail);exact⟨rfl,trivial,(M.W [some 0,some 1,some 2,some 3,some 4,some 5,some 6,some 7])⟩
    ·intro _;rw[hre];simp only[Qh];skip
     (exact M.n2 [some 0,some 1,some 2,some 3] (h6:=(by(repeat'(first|exact trivial|refine And.intro ?_ ?_|refine⟨_,U,_,U,_,U,?_⟩|exact Aj.refl _|exact Aj.of_eq (by simp[Ao.Ar,List.append_assoc])));done)) (h8:=(by simp[zi,V.wk,V.An,zd,Ty.view,Tm.view,List.append_assoc])))
theorem Sk(Xs:List Bool)(p:Pf)(v y:Int):AC E 134 [.agg p.view,.agg [.i v,.i y],.ptr 0 0] ⟨1,[(0,.var [.bool (Xs.all id)])]⟩ (.At []) ⟨1,[(0,.var [.bool ((Xs++Dl p.kind p.index y).all id)])]⟩:=by
 rw[List.all_append];generalize Xs.all id=b;unfold Dl;by_cases h1:p.kind=1
 ·rw[if_pos h1];cases b;all_goals
   refine M.F Tryz.func134 ?_;(repeat' first|refine M.gw ?_|refine M.gs ?_ ?_<;>intro h|fail);all_goals first|exfalso;simp at h;exact absurd h1 h|exfalso;simp_all;done|exact M.n2 [some 0] (h6:=(by(repeat'(first|exact trivial|refine And.intro ?_ ?_|refine⟨_,U,_,U,_,U,?_⟩|exact Aj.refl _|exact Aj.of_eq (by simp[Ao.Ar,Bool.true_and,Bool.false_and,h1])));done)) (h8:=(by simp[zi,V.wk,V.An,zd,Ty.view,Tm.view,Bool.true_and,Bool.false_and,h1]))
 ·rw[if_neg h1];cases b;all_goals
   refine M.F Tryz.func134 ?_;(repeat' first|refine M.gw ?_|refine M.gs ?_ ?_<;>intro h|fail);all_goals first|exfalso;simp at h;exact absurd h h1|exfalso;simp_all;done|exact M.n2 [some 0] (h8:=(by simp[zi,V.wk,V.An,zd,Ty.view,Tm.view,Bool.true_and,Bool.false_and,h1]))
theorem Yn6:∀(n:Nat) (p:Pf) (v y:Int) (Xs:List Bool),p.full<=n->n<10000000000->(0<=v/\v+2*n<=50000000000)->(0<=y/\y+2*n<=50000000000)->p.nd->
 AC E 84 [.agg p.view,.agg [.i v,.i y],.agg [.nilf,.nilf,.fn (.func 134) [] [.ptr 0 0]]] ⟨1,[(0,.var [.bool (Xs.all id)])]⟩ (.At []) ⟨1,[(0,.var [.bool ((Xs++p.Cw (Dl) y).all id)])]⟩:=by
 intro n;induction n with
 |zero=>intro p v y Xs hz;have:=p.Aa;omega
 |succ n ih=>
 intro p v y Xs hz hn hv hh hs;have hre:=p.BC (Dl) y;have hsz':=p.Ag;have hlen:=zg Pf.full Pf.Aa p.args;have hlen1:=zg Fm.full Fm.Aa p.Ad;have hlen2:=zg Tm.full Tm.Aa p.terms;have hru:=ul p.kind;obtain⟨⟨nd,n1,n4⟩,hpf⟩:=(Pf.BL p).1 hs;have hal:p.args.length<=2:=by
  rw[n4];unfold BX at n1
  repeat(split at n1;· cases n1;decide)
  cases n1
 have hpl:=fun(m:Nat) (hm:m<=1000000)=>xp p.kind v y nd n1 m hm (by omega) (by omega);have e2:C2 p.kind=[.bool nd.index,.bool nd.typ,.i nd.terms,.i nd.Ad,.i nd.args,.i (AK p.kind),.i (Az p.kind),.i (Ay p.kind)]:=by unfold C2;rw[n1]
 have b1:0<=Az p.kind/\Az p.kind<=2:=by unfold Az;split<;>(try split)<;>omega
 have b2:0<=Ay p.kind/\Ay p.kind<=1:=by unfold Ay;split<;>omega
 have b3:0<=AK p.kind/\AK p.kind<=1:=by unfold AK;split<;>omega
 rw[n1] at hru;simp only[Option.isSome_some] at hru;rw[e2] at hru;simp only[e2] at hpl;have hlf:=Sk Xs p v y;have hno:nd.index=false->(Dl) p.kind p.index y=[]:=fun hi=>by
  have k1:p.kind≠1:=fun e=>by rw[e] at n1;simp[BX] at n1;rw[<-n1] at hi;cases hi
  have k2:p.kind≠2:=fun e=>by rw[e] at n1;simp[BX] at n1;rw[<-n1] at hi;cases hi
  simp[Dl,Cy,N3,k1,k2]
 obtain⟨X1,hX1⟩:∃X1,X1=Xs++(Dl) p.kind p.index y:=⟨_,rfl⟩;obtain⟨x3,x4,x5,ix,x2⟩:=nd;simp only at n4 hru hpl hno;cases ix
 ·have hX:X1=Xs:=by rw[hX1,hno rfl,List.append_nil]
  refine M.F Tryz.func84 ?_;(repeat' first|refine M.gw ?_|refine M.c2 (hru) ?_|fail);refine AW.range p.terms.length (fun m=>True)
   (fun m=>([(3,.ptr 1 0),(4,.ptr 2 0),(5,.ptr 3 0),(6,.ptr 4 0),(33,.s .tm p.terms),(34,.i p.terms.length),(35,.i m)],⟨5,[(0,.var [.bool (X1.all id)]),(1,.var p.view),(2,.var [.i v,.i y]),(3,.var [.nilf,.nilf,.fn (.func 134) [] [.ptr 0 0]]),(4,.var [.bool false,.bool x2,.i x3,.i x4,.i x5,.i (AK p.kind),.i (Az p.kind),.i (Ay p.kind)])]⟩))
   (by omega) (fun m=>rfl) (fun m=>rfl) U trivial (M.W [some 0,some 1,some 2,some 3,some 4] (he:=(by(repeat'(first|exact trivial|refine And.intro ?_ ?_|refine⟨_,U,_,U,_,U,?_⟩|exact Aj.refl _|exact Aj.of_eq (by simp[Ao.Ar,hX])));done))) ?_ ?_
  ·intro m hm _;(repeat' first|refine M.gw ?_|fail);exact⟨rfl,trivial,(M.W [some 0,some 1,some 2,some 3,some 4])⟩
  ·intro _;skip;(repeat' first|refine M.gw ?_|fail);refine AW.range p.Ad.length (fun m=>True)
    (fun m=>([(3,.ptr 1 0),(4,.ptr 2 0),(5,.ptr 3 0),(6,.ptr 4 0),(50,.s .fm p.Ad),(51,.i p.Ad.length),(52,.i m)],⟨5,[(0,.var [.bool (X1.all id)]),(1,.var p.view),(2,.var [.i v,.i y]),(3,.var [.nilf,.nilf,.fn (.func 134) [] [.ptr 0 0]]),(4,.var [.bool false,.bool x2,.i x3,.i x4,.i x5,.i (AK p.kind),.i (Az p.kind),.i (Ay p.kind)])]⟩))
    (by omega) (fun m=>rfl) (fun m=>rfl) rfl trivial (M.W [some 0,some 1,some 2,some 3,some 4]) ?_ ?_
   ·intro m hm _;(repeat' first|refine M.gw ?_|fail);exact⟨rfl,trivial,(M.W [some 0,some 1,some 2,some 3,some 4])⟩
   ·intro _;skip;(repeat' first|refine M.gw ?_|fail);refine AW.range p.args.length (fun m=>True)
     (fun m=>([(3,.ptr 1 0),(4,.ptr 2 0),(5,.ptr 3 0),(6,.ptr 4 0),(70,.s .pf p.args),(71,.i p.args.length),(72,.i m)],⟨5,[(0,.var [.bool ((X1++((Pf.AY (Dl) y (Ay p.kind) p.args).take m).flatten).all id)]),(1,.var p.view),(2,.var [.i v,.i y]),(3,.var [.nilf,.nilf,.fn (.func 134) [] [.ptr 0 0]]),(4,.var [.bool false,.bool x2,.i x3,.i x4,.i x5,.i (AK p.kind),.i (Az p.kind),.i (Ay p.kind)])]⟩))
     (by omega) (fun m=>rfl) (fun m=>rfl) U trivial (M.W [some 0,some 1,some 2,some 3,some 4] (he:=(by(repeat'(first|exact trivial|refine And.intro ?_ ?_|refine⟨_,U,_,U,_,U,?_⟩|exact Aj.refl _|exact Aj.of_eq (by simp[Ao.Ar,List.take_zero,List.flatten_nil,List.append_nil])));done))) ?_ ?_
    ·intro m hm _;have hs2:=ze Pf.full (List.getElem_mem hm);have hb:=hpl m (by omega);have hc:=ih p.args[m] (if m+1=p.args.length then v+Az p.kind else v) (if m+1=p.args.length then y+Ay p.kind else y) (X1++((Pf.AY (Dl) y (Ay p.kind) p.args).take m).flatten) (by omega) (by omega) (by split<;>omega) (by split<;>omega) (hpf _ (List.getElem_mem hm));have e3:(X1++((Pf.AY (Dl) y (Ay p.kind) p.args).take m).flatten)++p.args[m].Cw (Dl) (if m+1=p.args.length then y+Ay p.kind else y)=(X1++((Pf.AY (Dl) y (Ay p.kind) p.args).take (m+1)).flatten):=by rw[List.append_assoc,K8 (Dl) hm]
     rw[e3] at hc;have ev:(if(m:Int)=(x5:Int)-1 then y+Ay p.kind else y)=(if m+1=p.args.length then y+Ay p.kind else y):=by
      by_cases hx:m+1=p.args.length
      ·rw[if_pos hx,if_pos (by omega)]
      ·rw[if_neg hx,if_neg (by omega)]
     have ev2:(if(m:Int)=(x5:Int)-1 then v+Az p.kind else v)=(if m+1=p.args.length then v+Az p.kind else v):=by
      by_cases hx:m+1=p.args.length
      ·rw[if_pos hx,if_pos (by omega)]
      ·rw[if_neg hx,if_neg (by omega)]
     rw[ev,ev2] at hb;(repeat' first|refine M.gw ?_|refine M.c2 (hb) ?_|refine M.cv (hc) [0] 0 ?_|fail);exact⟨rfl,trivial,(M.W [some 0,some 1,some 2,some 3,some 4])⟩
    ·intro _;rw[hre];simp only[LP];skip
     (exact M.n2 [some 0] (h6:=(by(repeat'(first|exact trivial|refine And.intro ?_ ?_|refine⟨_,U,_,U,_,U,?_⟩|exact Aj.of_eq (by simp[Ao.Ar,hX1,List.append_assoc])));done)) (h8:=(by simp[zi,V.wk,V.An,zd,Ty.view,Tm.view,hX1,List.append_assoc])))
 ·refine M.F Tryz.func84 ?_;(repeat' first|refine M.gw ?_|refine M.c2 (hru) ?_|refine M.cv (hlf) [0] 0 ?_|fail);refine AW.range p.terms.length (fun m=>True)
   (fun m=>([(3,.ptr 1 0),(4,.ptr 2 0),(5,.ptr 3 0),(6,.ptr 4 0),(33,.s .tm p.terms),(34,.i p.terms.length),(35,.i m)],⟨5,[(0,.var [.bool (X1.all id)]),(1,.var p.view),(2,.var [.i v,.i y]),(3,.var [.nilf,.nilf,.fn (.func 134) [] [.ptr 0 0]]),(4,.var [.bool true,.bool x2,.i x3,.i x4,.i x5,.i (AK p.kind),.i (Az p.kind),.i (Ay p.kind)])]⟩))
   (by omega) (fun m=>rfl) (fun m=>rfl) U trivial (M.W [some 0,some 1,some 2,some 3,some 4] (he:=(by(repeat'(first|exact trivial|refine And.intro ?_ ?_|refine⟨_,U,_,U,_,U,?_⟩|exact Aj.refl _|exact Aj.of_eq (by simp[Ao.Ar,hX1])));done))) ?_ ?_
  ·intro m hm _;(repeat' first|refine M.gw ?_|fail);exact⟨rfl,trivial,(M.W [some 0,some 1,some 2,some 3,some 4])⟩
  ·intro _;skip;(repeat' first|refine M.gw ?_|fail);refine AW.range p.Ad.length (fun m=>True)
    (fun m=>([(3,.ptr 1 0),(4,.ptr 2 0),(5,.ptr 3 0),(6,.ptr 4 0),(50,.s .fm p.Ad),(51,.i p.Ad.length),(52,.i m)],⟨5,[(0,.var [.bool (X1.all id)]),(1,.var p.view),(2,.var [.i v,.i y]),(3,.var [.nilf,.nilf,.fn (.func 134) [] [.ptr 0 0]]),(4,.var [.bool true,.bool x2,.i x3,.i x4,.i x5,.i (AK p.kind),.i (Az p.kind),.i (Ay p.kind)])]⟩))
    (by omega) (fun m=>rfl) (fun m=>rfl) rfl trivial (M.W [some 0,some 1,some 2,some 3,some 4]) ?_ ?_
   ·intro m hm _;(repeat' first|refine M.gw ?_|fail);exact⟨rfl,trivial,(M.W [some 0,some 1,some 2,some 3,some 4])⟩
   ·intro _;skip;(repeat' first|refine M.gw ?_|fail);refine AW.range p.args.length (fun m=>True)
     (fun m=>([(3,.ptr 1 0),(4,.ptr 2 0),(5,.ptr 3 0),(6,.ptr 4 0),(70,.s .pf p.args),(71,.i p.args.length),(72,.i m)],⟨5,[(0,.var [.bool ((X1++((Pf.AY (Dl) y (Ay p.kind) p.args).take m).flatten).all id)]),(1,.var p.view),(2,.var [.i v,.i y]),(3,.var [.nilf,.nilf,.fn (.func 134) [] [.ptr 0 0]]),(4,.var [.bool true,.bool x2,.i x3,.i x4,.i x5,.i (AK p.kind),.i (Az p.kind),.i (Ay p.kind)])]⟩))
     (by omega) (fun m=>rfl) (fun m=>rfl) U trivial (M.W [some 0,some 1,some 2,some 3,some 4] (he:=(by(repeat'(first|exact trivial|refine And.intro ?_ ?_|refine⟨_,U,_,U,_,U,?_⟩|exact Aj.refl _|exact Aj.of_eq (by simp[Ao.Ar,List.take_zero,List.flatten_nil,List.append_nil])));done))) ?_ ?_
    ·intro m hm _;have hs2:=ze Pf.full (List.getElem_mem hm);have hb:=hpl m (by omega);have hc:=ih p.args[m] (if m+1=p.args.length then v+Az p.kind else v) (if m+1=p.args.length then y+Ay p.kind else y) (X1++((Pf.AY (Dl) y (Ay p.kind) p.args).take m).flatten) (by omega) (by omega) (by split<;>omega) (by split<;>omega) (hpf _ (List.getElem_mem hm));have e3:(X1++((Pf.AY (Dl) y (Ay p.kind) p.args).take m).flatten)++p.args[m].Cw (Dl) (if m+1=p.args.length then y+Ay p.kind else y)=(X1++((Pf.AY (Dl) y (Ay p.kind) p.args).take (m+1)).flatten):=by rw[List.append_assoc,K8 (Dl) hm]
     rw[e3] at hc;have ev:(if(m:Int)=(x5:Int)-1 then y+Ay p.kind else y)=(if m+1=p.args.length then y+Ay p.kind else y):=by
      by_cases hx:m+1=p.args.length
      ·rw[if_pos hx,if_pos (by omega)]
      ·rw[if_neg hx,if_neg (by omega)]
     have ev2:(if(m:Int)=(x5:Int)-1 then v+Az p.kind else v)=(if m+1=p.args.length then v+Az p.kind else v):=by
      by_cases hx:m+1=p.args.length
      ·rw[if_pos hx,if_pos (by omega)]
      ·rw[if_neg hx,if_neg (by omega)]
     rw[ev,ev2] at hb;(repeat' first|refine M.gw ?_|refine M.c2 (hb) ?_|refine M.cv (hc) [0] 0 ?_|fail);exact⟨rfl,trivial,(M.W [some 0,some 1,some 2,some 3,some 4])⟩
    ·intro _;rw[hre];simp only[LP];skip
     (exact M.n2 [some 0] (h6:=(by(repeat'(first|exact trivial|refine And.intro ?_ ?_|refine⟨_,U,_,U,_,U,?_⟩|exact Aj.of_eq (by simp[Ao.Ar,hX1,List.append_assoc])));done)) (h8:=(by simp[zi,V.wk,V.An,zd,Ty.view,Tm.view,hX1,List.append_assoc])))
theorem QW(a:Int)(Xs:List Int)(p:Pf)(v y:Int)(hp:p.kind=1->0<=p.index/\p.index<9223372036854775808)(hy:0<=y/\y<100000000000)(hl:Xs.length<=2000000000):
 AC E 264 [.agg p.view,.agg [.i v,.i y],.ptr 0 0,.ptr 1 0] ⟨2,[(0,.var [.i a]),(1,.var [.i Xs.length])]⟩ (.At []) ⟨2,[(0,.var [.i a]),(1,.var [.i (Xs++Cy a p.kind p.index y).length])]⟩:=by
 rw[List.length_append];unfold Cy;by_cases h0:p.kind=1;case neg=>
  rw[if_neg (fun h=>h0 h.1)];refine M.F Tryz.func264 ?_;(repeat' first|refine M.gw ?_|refine M.gs ?_ ?_<;>intro h|refine M.cs ?_ ?_<;>intro h|fail);all_goals first|exfalso;simp_all;done|exact M.n2 [some 0,some 1] (h8:=(by simp[zi,V.wk,V.An,zd,Ty.view,Tm.view,List.length_nil]))
 have hp:=hp h0;by_cases h1:p.kind=1/\p.index-y=a
 ·rw[if_pos h1];refine M.F Tryz.func264 ?_;(repeat' first|refine M.gw ?_|refine M.gs ?_ ?_<;>intro h|refine M.cs ?_ ?_<;>intro h|fail);all_goals first|exfalso;simp_all;done|exact M.n2 [some 0,some 1] (h8:=(by simp[zi,V.wk,V.An,zd,Ty.view,Tm.view,List.length_cons,List.length_nil]))
 ·rw[if_neg h1];refine M.F Tryz.func264 ?_;(repeat' first|refine M.gw ?_|refine M.gs ?_ ?_<;>intro h|refine M.cs ?_ ?_<;>intro h|fail);all_goals first|exfalso;apply h1;simp_all;done|exfalso;simp_all;done|exact M.n2 [some 0,some 1] (h8:=(by simp[zi,V.wk,V.An,zd,Ty.view,Tm.view,List.length_nil]))
theorem Ymq(a:Int):∀(n:Nat) (p:Pf) (v y:Int) (Xs:List Int),p.full<=n->n<10000000000->(0<=v/\v+2*n<=50000000000)->(0<=y/\y+2*n<=50000000000)->p.nd->p.hx 9223372036854775808->(Xs++p.Cw (Cy a) y).length<=2000000000->
 AC E 84 [.agg p.view,.agg [.i v,.i y],.agg [.nilf,.nilf,.fn (.func 264) [] [.ptr 0 0,.ptr 1 0]]] ⟨2,[(0,.var [.i a]),(1,.var [.i (Xs).length])]⟩ (.At []) ⟨2,[(0,.var [.i a]),(1,.var [.i ((Xs++p.Cw (Cy a) y)).length])]⟩:=by
 intro n;induction n with
 |zero=>intro p v y Xs hz;have:=p.Aa;omega
 |succ n ih=>
 intro p v y Xs hz hn hv hh hs hhx hxl;obtain⟨i1,i2⟩:=(Pf.BS _ p).1 hhx;have hka:0<p.args.length->p.kind≠1:=fun h0 e=>by
  obtain⟨⟨nd0,a1,a2⟩,_⟩:=(Pf.BL p).1 hs;rw[e] at a1;simp[BX] at a1;rw[<-a1] at a2;simp at a2;simp[a2] at h0
 have hxl2:=hxl;rw[p.BC (Cy a) y,<-List.append_assoc] at hxl2;have hre:=p.BC (Cy a) y;have hsz':=p.Ag;have hlen:=zg Pf.full Pf.Aa p.args;have hlen1:=zg Fm.full Fm.Aa p.Ad;have hlen2:=zg Tm.full Tm.Aa p.terms;have hru:=ul p.kind;obtain⟨⟨nd,n1,n4⟩,hpf⟩:=(Pf.BL p).1 hs;have hal:p.args.length<=2:=by
  rw[n4];unfold BX at n1
  repeat(split at n1;· cases n1;decide)
  cases n1
 have hpl:=fun(m:Nat) (hm:m<=1000000)=>xp p.kind v y nd n1 m hm (by omega) (by omega);have e2:C2 p.kind=[.bool nd.index,.bool nd.typ,.i nd.terms,.i nd.Ad,.i nd.args,.i (AK p.kind),.i (Az p.kind),.i (Ay p.kind)]:=by unfold C2;rw[n1]
 have b1:0<=Az p.kind/\Az p.kind<=2:=by unfold Az;split<;>(try split)<;>omega
 have b2:0<=Ay p.kind/\Ay p.kind<=1:=by unfold Ay;split<;>omega
 have b3:0<=AK p.kind/\AK p.kind<=1:=by unfold AK;split<;>omega
 rw[n1] at hru;simp only[Option.isSome_some] at hru;rw[e2] at hru;simp only[e2] at hpl;have hlf:=QW a Xs p v y i1 (by omega) (by rw[List.length_append] at hxl;omega);have hno:nd.index=false->(Cy a) p.kind p.index y=[]:=fun hi=>by
  have k1:p.kind≠1:=fun e=>by rw[e] at n1;simp[BX] at n1;rw[<-n1] at hi;cases hi
  have k2:p.kind≠2:=fun e=>by rw[e] at n1;simp[BX] at n1;rw[<-n1] at hi;cases hi
  simp[Dl,Cy,N3,k1,k2]
 obtain⟨X1,hX1⟩:∃X1,X1=Xs++(Cy a) p.kind p.index y:=⟨_,rfl⟩;obtain⟨x3,x4,x5,ix,x2⟩:=nd;simp only at n4 hru hpl hno;cases ix
 ·have hX:X1=Xs:=by rw[hX1,hno rfl,List.append_nil]
  refine M.F Tryz.func84 ?_;(repeat' first|refine M.gw ?_|refine M.c2 (hru) ?_|fail);refine AW.range p.terms.length (fun m=>True)
   (fun m=>([(3,.ptr 2 0),(4,.ptr 3 0),(5,.ptr 4 0),(6,.ptr 5 0),(33,.s .tm p.terms),(34,.i p.terms.length),(35,.i m)],⟨6,[(0,.var [.i a]),(1,.var [.i (X1).length]),(2,.var p.view),(3,.var [.i v,.i y]),(4,.var [.nilf,.nilf,.fn (.func 264) [] [.ptr 0 0,.ptr 1 0]]),(5,.var [.bool false,.bool x2,.i x3,.i x4,.i x5,.i (AK p.kind),.i (Az p.kind),.i (Ay p.kind)])]⟩))
   (by omega) (fun m=>rfl) (fun m=>rfl) U trivial (M.W [some 0,some 1,some 2,some 3,some 4,some 5] (he:=(by(repeat'(first|exact trivial|refine And.intro ?_ ?_|refine⟨_,U,_,U,_,U,?_⟩|exact Aj.refl _|exact Aj.of_eq (by simp[Ao.Ar,hX])));done))) ?_ ?_
  ·intro m hm _;(repeat' first|refine M.gw ?_|fail);exact⟨rfl,trivial,(M.W [some 0,some 1,some 2,some 3,some 4,some 5])⟩
  ·intro _;skip;(repeat' first|refine M.gw ?_|fail);refine AW.range p.Ad.length (fun m=>True)
    (fun m=>([(3,.ptr 2 0),(4,.ptr 3 0),(5,.ptr 4 0),(6,.ptr 5 0),(50,.s .fm p.Ad),(51,.i p.Ad.length),(52,.i m)],⟨6,[(0,.var [.i a]),(1,.var [.i (X1).length]),(2,.var p.view),(3,.var [.i v,.i y]),(4,.var [.nilf,.nilf,.fn (.func 264) [] [.ptr 0 0,.ptr 1 0]]),(5,.var [.bool false,.bool x2,.i x3,.i x4,.i x5,.i (AK p.kind),.i (Az p.kind),.i (Ay p.kind)])]⟩))
    (by omega) (fun m=>rfl) (fun m=>rfl) rfl trivial (M.W [some 0,some 1,some 2,some 3,some 4,some 5]) ?_ ?_
   ·intro m hm _;(repeat' first|refine M.gw ?_|fail);exact⟨rfl,trivial,(M.W [some 0,some 1,some 2,some 3,some 4,some 5])⟩
   ·intro _;skip;(repeat' first|refine M.gw ?_|fail);refine AW.range p.args.length (fun m=>True)
     (fun m=>([(3,.ptr 2 0),(4,.ptr 3 0),(5,.ptr 4 0),(6,.ptr 5 0),(70,.s .pf p.args),(71,.i p.args.length),(72,.i m)],⟨6,[(0,.var [.i a]),(1,.var [.i ((X1++((Pf.AY (Cy a) y (Ay p.kind) p.args).take m).flatten)).length]),(2,.var p.view),(3,.var [.i v,.i y]),(4,.var [.nilf,.nilf,.fn (.func 264) [] [.ptr 0 0,.ptr 1 0]]),(5,.var [.bool false,.bool x2,.i x3,.i x4,.i x5,.i (AK p.kind),.i (Az p.kind),.i (Ay p.kind)])]⟩))
     (by omega) (fun m=>rfl) (fun m=>rfl) U trivial (M.W [some 0,some 1,some 2,some 3,some 4,some 5] (he:=(by(repeat'(first|exact trivial|refine And.intro ?_ ?_|refine⟨_,U,_,U,_,U,?_⟩|exact Aj.refl _|exact Aj.of_eq (by simp[Ao.Ar,List.take_zero,List.flatten_nil,List.append_nil])));done))) ?_ ?_
    ·intro m hm _;have hs2:=ze Pf.full (List.getElem_mem hm);have hb:=hpl m (by omega);have hc:=ih p.args[m] (if m+1=p.args.length then v+Az p.kind else v) (if m+1=p.args.length then y+Ay p.kind else y) (X1++((Pf.AY (Cy a) y (Ay p.kind) p.args).take m).flatten) (by omega) (by omega) (by split<;>omega) (by split<;>omega) (hpf _ (List.getElem_mem hm)) (i2 (hka (by omega)) _ (List.getElem_mem hm)) (by have h9:=(Qj X1 (Pf.AY (Cy a) y (Ay p.kind) p.args) m (by rw[HJ];exact hm)).length_le;rw[ID _ _ _ _ _ hm] at h9;rw[hX1] at h9 ⊢;omega);have e3:(X1++((Pf.AY (Cy a) y (Ay p.kind) p.args).take m).flatten)++p.args[m].Cw (Cy a) (if m+1=p.args.length then y+Ay p.kind else y)=(X1++((Pf.AY (Cy a) y (Ay p.kind) p.args).take (m+1)).flatten):=by rw[List.append_assoc,K8 (Cy a) hm]
     rw[e3] at hc;have ev:(if(m:Int)=(x5:Int)-1 then y+Ay p.kind else y)=(if m+1=p.args.length then y+Ay p.kind else y):=by
      by_cases hx:m+1=p.args.length
      ·rw[if_pos hx,if_pos (by omega)]
      ·rw[if_neg hx,if_neg (by omega)]
     have ev2:(if(m:Int)=(x5:Int)-1 then v+Az p.kind else v)=(if m+1=p.args.length then v+Az p.kind else v):=by
      by_cases hx:m+1=p.args.length
      ·rw[if_pos hx,if_pos (by omega)]
      ·rw[if_neg hx,if_neg (by omega)]
     rw[ev,ev2] at hb;(repeat' first|refine M.gw ?_|refine M.c2 (hb) ?_|refine M.cv (hc) [0,1] 0 ?_|fail);exact⟨rfl,trivial,(M.W [some 0,some 1,some 2,some 3,some 4,some 5])⟩
    ·intro _;rw[hre];simp only[LP];skip
     (exact M.n2 [some 0,some 1] (h6:=(by(repeat'(first|exact trivial|refine And.intro ?_ ?_|refine⟨_,U,_,U,_,U,?_⟩|exact Aj.refl _|exact Aj.of_eq (by simp[Ao.Ar,hX1,List.append_assoc])));done)) (h8:=(by simp[zi,V.wk,V.An,zd,Ty.view,Tm.view,hX1,List.append_assoc])))
 ·refine M.F Tryz.func84 ?_;(repeat' first|refine M.gw ?_|refine M.c2 (hru) ?_|refine M.cv (hlf) [0,1] 0 ?_|fail);refine AW.range p.terms.length (fun m=>True)
   (fun m=>([(3,.ptr 2 0),(4,.ptr 3 0),(5,.ptr 4 0),(6,.ptr 5 0),(33,.s .tm p.terms),(34,.i p.terms.length),(35,.i m)],⟨6,[(0,.var [.i a]),(1,.var [.i (X1).length]),(2,.var p.view),(3,.var [.i v,.i y]),(4,.var [.nilf,.nilf,.fn (.func 264) [] [.ptr 0 0,.ptr 1 0]]),(5,.var [.bool true,.bool x2,.i x3,.i x4,.i x5,.i (AK p.kind),.i (Az p.kind),.i (Ay p.kind)])]⟩))
   (by omega) (fun m=>rfl) (fun m=>rfl) U trivial (M.W [some 0,some 1,some 2,some 3,some 4,some 5] (he:=(by(repeat'(first|exact trivial|refine And.intro ?_ ?_|refine⟨_,U,_,U,_,U,?_⟩|exact Aj.refl _|exact Aj.of_eq (by simp[Ao.Ar,hX1])));done))) ?_ ?_
  ·intro m hm _;(repeat' first|refine M.gw ?_|fail);exact⟨rfl,trivial,(M.W [some 0,some 1,some 2,some 3,some 4,some 5])⟩
  ·intro _;skip;(repeat' first|refine M.gw ?_|fail);refine AW.range p.Ad.length (fun m=>True)
    (fun m=>([(3,.ptr 2 0),(4,.ptr 3 0),(5,.ptr 4 0),(6,.ptr 5 0),(50,.s .fm p.Ad),(51,.i p.Ad.length),(52,.i m)],⟨6,[(0,.var [.i a]),(1,.var [.i (X1).length]),(2,.var p.view),(3,.var [.i v,.i y]),(4,.var [.nilf,.nilf,.fn (.func 264) [] [.ptr 0 0,.ptr 1 0]]),(5,.var [.bool true,.bool x2,.i x3,.i x4,.i x5,.i (AK p.kind),.i (Az p.kind),.i (Ay p.kind)])]⟩))
    (by omega) (fun m=>rfl) (fun m=>rfl) rfl trivial (M.W [some 0,some 1,some 2,some 3,some 4,some 5]) ?_ ?_
   ·intro m hm _;(repeat' first|refine M.gw ?_|fail);exact⟨rfl,trivial,(M.W [some 0,some 1,some 2,some 3,some 4,some 5])⟩
   ·intro _;skip;(repeat' first|refine M.gw ?_|fail);refine AW.range p.args.length (fun m=>True)
     (fun m=>([(3,.ptr 2 0),(4,.ptr 3 0),(5,.ptr 4 0),(6,.ptr 5 0),(70,.s .pf p.args),(71,.i p.args.length),(72,.i m)],⟨6,[(0,.var [.i a]),(1,.var [.i ((X1++((Pf.AY (Cy a) y (Ay p.kind) p.args).take m).flatten)).length]),(2,.var p.view),(3,.var [.i v,.i y]),(4,.var [.nilf,.nilf,.fn (.func 264) [] [.ptr 0 0,.ptr 1 0]]),(5,.var [.bool true,.bool x2,.i x3,.i x4,.i x5,.i (AK p.kind),.i (Az p.kind),.i (Ay p.kind)])]⟩))
     (by omega) (fun m=>rfl) (fun m=>rfl) U trivial (M.W [some 0,some 1,some 2,some 3,some 4,some 5] (he:=(by(repeat'(first|exact trivial|refine And.intro ?_ ?_|refine⟨_,U,_,U,_,U,?_⟩|exact Aj.refl _|exact Aj.of_eq (by simp[Ao.Ar,List.take_zero,List.flatten_nil,List.append_nil])));done))) ?_ ?_
    ·intro m hm _;have hs2:=ze Pf.full (List.getElem_mem hm);have hb:=hpl m (by omega);have hc:=ih p.args[m] (if m+1=p.args.length then v+Az p.kind else v) (if m+1=p.args.length then y+Ay p.kind else y) (X1++((Pf.AY (Cy a) y (Ay p.kind) p.args).take m).flatten) (by omega) (by omega) (by split<;>omega) (by split<;>omega) (hpf _ (List.getElem_mem hm)) (i2 (hka (by omega)) _ (List.getElem_mem hm)) (by have h9:=(Qj X1 (Pf.AY (Cy a) y (Ay p.kind) p.args) m (by rw[HJ];exact hm)).length_le;rw[ID _ _ _ _ _ hm] at h9;rw[hX1] at h9 ⊢;omega);have e3:(X1++((Pf.AY (Cy a) y (Ay p.kind) p.args).take m).flatten)++p.args[m].Cw (Cy a) (if m+1=p.args.length then y+Ay p.kind else y)=(X1++((Pf.AY (Cy a) y (Ay p.kind) p.args).take (m+1)).flatten):=by rw[List.append_assoc,K8 (Cy a) hm]
     rw[e3] at hc;have ev:(if(m:Int)=(x5:Int)-1 then y+Ay p.kind else y)=(if m+1=p.args.length then y+Ay p.kind else y):=by
      by_cases hx:m+1=p.args.length
      ·rw[if_pos hx,if_pos (by omega)]
      ·rw[if_neg hx,if_neg (by omega)]
     have ev2:(if(m:Int)=(x5:Int)-1 then v+Az p.kind else v)=(if m+1=p.args.length then v+Az p.kind else v):=by
      by_cases hx:m+1=p.args.length
      ·rw[if_pos hx,if_pos (by omega)]
      ·rw[if_neg hx,if_neg (by omega)]
     rw[ev,ev2] at hb;(repeat' first|refine M.gw ?_|refine M.c2 (hb) ?_|refine M.cv (hc) [0,1] 0 ?_|fail);exact⟨rfl,trivial,(M.W [some 0,some 1,some 2,some 3,some 4,some 5])⟩
    ·intro _;rw[hre];simp only[LP];skip
     (exact M.n2 [some 0,some 1] (h6:=(by(repeat'(first|exact trivial|refine And.intro ?_ ?_|refine⟨_,U,_,U,_,U,?_⟩|exact Aj.refl _|exact Aj.of_eq (by simp[Ao.Ar,hX1,List.append_assoc])));done)) (h8:=(by simp[zi,V.wk,V.An,zd,Ty.view,Tm.view,hX1,List.append_assoc])))
theorem T8(p:Pf)(hp:p.full<5000000000)(hs:p.nd):PC E 83 [.agg p.view] (.bool p.Bj):=by
 have hc:=Yn6 _ p 0 0 [] (Nat.le_refl _) (by omega) (by omega) (by omega) hs;rw[List.nil_append] at hc;unfold Pf.Bj;generalize (p.Cw Dl 0).all id=b at*;refine M.F Tryz.func83 ?_;(repeat' first|refine M.gw ?_|refine M.cv (hc) [1] 0 ?_|fail);simp[zi,V.wk,V.An,zd,Ty.view,Tm.view]
theorem Ye5(p:Pf)(a:Int)(hp:p.full<1000000000)(hs:p.nd)(hx:p.hx 9223372036854775808):PC E 245 [.agg p.view,.i a] (.i (FD p a)):=by
 have hl:=WD a p 0;have hc:=Ymq a _ p 0 0 [] (Nat.le_refl _) (by omega) (by omega) (by omega) hs hx (by rw[List.nil_append];omega);rw[List.nil_append] at hc;unfold FD;generalize (p.Cw (Cy a) 0).length=n at*;refine M.F Tryz.func245 ?_;(repeat' first|refine M.gw ?_|refine M.cv (hc) [1,2] 0 ?_|fail);simp[zi,V.wk,V.An,zd,Ty.view,Tm.view]
theorem UA(n m:Int):PC E 244 [.i n,.i m] (.bool (decide (0<=n/\n<=m))):=by
 by_cases h1:0<=n
 ·by_cases h2:n<=m
  ·rw[decide_eq_true ⟨h1,h2⟩];refine M.F Tryz.func244 ?_;(repeat' first|refine M.gw ?_|refine M.gs ?_ ?_<;>intro h|fail);all_goals first|simp[zi,V.wk];omega|exfalso;simp at*;omega|simp[zi,V.wk,h1,h2];done
  ·rw[decide_eq_false (by omega)];refine M.F Tryz.func244 ?_;(repeat' first|refine M.gw ?_|refine M.gs ?_ ?_<;>intro h|fail);all_goals first|exfalso;simp at*;omega|simp[zi,V.wk,h1,h2];done|simp[zi,V.wk];omega
 ·rw[decide_eq_false (by omega)];refine M.F Tryz.func244 ?_;(repeat' first|refine M.gw ?_|refine M.gs ?_ ?_<;>intro h|fail);all_goals first|exfalso;simp at*;omega|simp[zi,V.wk,h1];done|simp[zi,V.wk];omega
theorem SZ(p:Pf)(hp:p.full<274877906944):PC E 243 [.agg p.view] (.At [.i p.num,.i p.err]):=by
 have h:=UM p hp;refine M.F Tryz.func243 ?_;(repeat' first|refine M.gw ?_|refine M.c2 (h) ?_|fail)
 rfl
theorem R1{p:Pf}(h:p.err=0):p.shape=true/\p.small=true/\p.size<=16384/\p.nd/\p.full<=1064960/\p.num=p.size:=by
 have h1:=(Pf.Ae p).1 h;have h2:=Qm p h1.1;exact⟨h1.1,h1.2.1,h1.2.2,KE p h1.1,by omega,by unfold Pf.num;rw[if_pos h]⟩
theorem Yk6(p:Pf)(a:Int)(s:Tm)(hp:p.full<274877906944)(hs:s.full<274877906944):PC E 207 [.agg p.view,.i a,.agg s.view] (.At [.agg (if vn p a s=0 then p.pt a s 0 else BR).view,.i (vn p a s)]):=by
 have h1:=SZ p hp;by_cases he:p.err=0;case neg=>
  rw[SD he,if_neg he];refine M.F Tryz.func207 ?_;(repeat' first|refine M.go ?_|refine M.c2 (h1) ?_|refine M.z1 4 ?_|refine M.cs ?_ ?_<;>intro h|refine M.gk ?_|fail);all_goals first
   |rfl
   |(exfalso;simp at h;exact he h)
   |trace_state
 obtain⟨g1,g2,g3,g4,g5,g6⟩:=R1 he;rw[he,g6] at h1;have h2:=UA a 4096;by_cases ha:0<=a/\a<=4096;case neg=>
  rw[decide_eq_false ha] at h2;rw[XN he ha,if_neg (by decide)];refine M.F Tryz.func207 ?_;(repeat' first|refine M.gw ?_|refine M.c2 (h1) ?_|refine M.c2 (h2) ?_|fail)
  rfl
 rw[decide_eq_true ha] at h2;have h3:=UQ s (by omega);by_cases es:s.err=0;case neg=>
  rw[UR he ha es,if_neg es];refine M.F Tryz.func207 ?_;(repeat' first|refine M.go ?_|refine M.c2 (h1) ?_|refine M.c2 (h2) ?_|refine M.c2 (h3) ?_|refine M.z1 9 ?_|refine M.cs ?_ ?_<;>intro h|refine M.gk ?_|fail);all_goals first
   |rfl
   |(exfalso;simp at h;exact es h)
   |trace_state
 have s1:=(Tm.Ae s).1 es;have s2:=yo es;rw[es,show s.num=s.size by unfold Tm.num;rw[if_pos es]] at h3;have h4:=Tn p (by omega) g4;have h5:=L9 s (by omega);by_cases hn:p.Bh=false\/s.near=false
 ·rw[WT he ha es hn,if_neg (by decide)];cases hb:p.Bh with
  |false=>
   rw[hb] at h4;refine M.F Tryz.func207 ?_;(repeat' first|refine M.gw ?_|refine M.c2 (h1) ?_|refine M.c2 (h2) ?_|refine M.c2 (h3) ?_|refine M.c2 (h4) ?_|fail)
   rfl
  |true=>
   rw[hb] at h4;rw[hn.resolve_left (by simp[hb])] at h5;refine M.F Tryz.func207 ?_;(repeat' first|refine M.gw ?_|refine M.c2 (h1) ?_|refine M.c2 (h2) ?_|refine M.c2 (h3) ?_|refine M.c2 (h4) ?_|refine M.c2 (h5) ?_|fail)
   rfl
 rw[T0 he ha es hn];have n1:p.Bh=true:=by cases h:p.Bh with|true=>rfl|false=>exact absurd (.inl h) hn
 have n2:s.near=true:=by cases h:s.near with|true=>rfl|false=>exact absurd (.inr h) hn
 rw[n1] at h4;rw[n2] at h5;have hix:=UX p g1 g2 0 n1;have sp:=s.size_pos;have hG:=Yo1 a p g2 (by omega) 0;have h6:=Ynd a s.size p.size ha (by omega) (by have:=p.size_pos;omega) _ p 0 0 [] (Nat.le_refl _) (by omega) (by omega) (by omega) g4 (NA hix (by omega)) g1 g2 (by rw[List.nil_append];exact hG);rw[List.nil_append] at h6;have hbd:=R6 (n:=p.size) (k:=s.size) (by omega) (by omega) hG;have h7:=Ynk p a s (by omega) (by omega) (Qa es n2) (by omega) g4 hix;unfold E8;obtain⟨N0,e1⟩:∃x,x=CM p.size s.size (p.DB (BI a) (BM a) 0):=⟨_,rfl⟩;obtain⟨B0,e2⟩:∃x,x=C1 s.size (p.DB (BI a) (BM a) 0):=⟨_,rfl⟩;have e3:CM p.size s.size []=p.size:=by simp[CM]
 have e4:C1 s.size []=false:=by simp[C1]
 rw[<-e1,<-e2,e3,e4] at h6;rw[<-e1,<-e2];generalize p.pt a s 0=P at*;clear e1 e2 hbd hG;cases B0
 ·by_cases hN:N0>16384
  ·rw[if_pos (Or.inr hN),if_neg (by decide)];refine M.F Tryz.func207 ?_;(repeat' first|refine M.go ?_|refine M.c2 (h1) ?_|refine M.c2 (h2) ?_|refine M.c2 (h3) ?_|refine M.c2 (h4) ?_|refine M.c2 (h5) ?_|refine M.cv (h6) [6,1,4,5] 0 ?_|refine M.z1 15 ?_|refine M.cs ?_ ?_<;>intro h|refine M.gk ?_|fail);all_goals first
    |rfl
    |(exfalso;simp at h;omega)
    |trace_state
  ·rw[if_neg (show ¬(false=true\/N0>16384) by simp;omega),if_pos rfl];refine M.F Tryz.func207 ?_;(repeat' first|refine M.gw ?_|refine M.c2 (h1) ?_|refine M.c2 (h2) ?_|refine M.c2 (h3) ?_|refine M.c2 (h4) ?_|refine M.c2 (h5) ?_|refine M.cv (h6) [6,1,4,5] 0 ?_|refine M.c2 (h7) ?_|refine M.cs ?_ ?_<;>intro h|fail);all_goals first
    |rfl
    |(exfalso;simp at h;omega)
    |trace_state
 ·rw[if_pos (Or.inl rfl),if_neg (by decide)];refine M.F Tryz.func207 ?_;(repeat' first|refine M.gw ?_|refine M.c2 (h1) ?_|refine M.c2 (h2) ?_|refine M.c2 (h3) ?_|refine M.c2 (h4) ?_|refine M.c2 (h5) ?_|refine M.cv (h6) [6,1,4,5] 0 ?_|fail)
  rfl
theorem Yjn(p:Pf)(a:Int)(q:Pf)(hp:p.full<274877906944)(hq:q.full<274877906944):PC E 206 [.agg p.view,.i a,.agg q.view] (.At [.agg (if Eb p a q=0 then Pf.ph a q 0 0 p else BR).view,.i (Eb p a q)]):=by
 have h1:=SZ p hp;by_cases he:p.err=0;case neg=>
  rw[Vy he,if_neg he];refine M.F Tryz.func206 ?_;(repeat' first|refine M.go ?_|refine M.c2 (h1) ?_|refine M.z1 4 ?_|refine M.cs ?_ ?_<;>intro h|refine M.gk ?_|fail);all_goals first
   |rfl
   |(exfalso;simp at h;exact he h)
   |trace_state
 obtain⟨g1,g2,g3,g4,g5,g6⟩:=R1 he;rw[he,g6] at h1;have h2:=UA a 16384;by_cases ha:0<=a/\a<=16384;case neg=>
  rw[decide_eq_false ha] at h2;rw[Wb he ha,if_neg (by decide)];refine M.F Tryz.func206 ?_;(repeat' first|refine M.gw ?_|refine M.c2 (h1) ?_|refine M.c2 (h2) ?_|fail)
  rfl
 rw[decide_eq_true ha] at h2;have h3:=SZ q hq;by_cases es:q.err=0;case neg=>
  rw[U1 he ha es,if_neg es];refine M.F Tryz.func206 ?_;(repeat' first|refine M.go ?_|refine M.c2 (h1) ?_|refine M.c2 (h2) ?_|refine M.c2 (h3) ?_|refine M.z1 9 ?_|refine M.cs ?_ ?_<;>intro h|refine M.gk ?_|fail);all_goals first
   |rfl
   |(exfalso;simp at h;exact es h)
   |trace_state
 obtain⟨s1,s2,s3,s4,s5,s6⟩:=R1 es;rw[es,s6] at h3;have h4:=T8 p (by omega) g4;have h5:=T8 q (by omega) s4;have h6:=Tn q (by omega) s4;by_cases hn:p.Bj=false\/q.Bj=false\/q.Bh=false
 ·rw[U2 he ha es hn,if_neg (by decide)];cases hb:p.Bj with
  |false=>
   rw[hb] at h4;refine M.F Tryz.func206 ?_;(repeat' first|refine M.gw ?_|refine M.c2 (h1) ?_|refine M.c2 (h2) ?_|refine M.c2 (h3) ?_|refine M.c2 (h4) ?_|fail)
   rfl
  |true=>
   rw[hb] at h4;cases hb2:q.Bj with
   |false=>
    rw[hb2] at h5;by_cases hpq:p=q
    ·subst hpq;rw[hb] at hb2;cases hb2
    refine M.F Tryz.func206 ?_;(repeat' first|refine M.gw ?_|refine M.c2 (h1) ?_|refine M.c2 (h2) ?_|refine M.c2 (h3) ?_|refine M.c2 (h4) ?_|refine M.c2 (h5) ?_|fail)
    rfl
   |true=>
    rw[hb2] at h5;rw[(hn.resolve_left (by simp[hb])).resolve_left (by simp[hb2])] at h6;refine M.F Tryz.func206 ?_;(repeat' first|refine M.gw ?_|refine M.c2 (h1) ?_|refine M.c2 (h2) ?_|refine M.c2 (h3) ?_|refine M.c2 (h4) ?_|refine M.c2 (h5) ?_|refine M.c2 (h6) ?_|fail)
    rfl
 rw[XK he ha es hn];have n1:p.Bj=true:=by cases h:p.Bj with|true=>rfl|false=>exact absurd (.inl h) hn
 have n2:q.Bj=true:=by cases h:q.Bj with|true=>rfl|false=>exact absurd (.inr (.inl h)) hn
 have n3:q.Bh=true:=by cases h:q.Bh with|true=>rfl|false=>exact absurd (.inr (.inr h)) hn
 rw[n1] at h4;rw[n2] at h5;rw[n3] at h6;have hx:=Vu p g1 0 n1;have h7:=Ye5 p a (by omega) g4 (Rm hx (by omega));have hl:=WD a p 0;have hcl:0<=FD p a/\FD p a<=1064960:=by unfold FD;omega
 have sp:=q.size_pos;have m1:0<=FD p a*((q.size:Int)-1):=Int.mul_nonneg hcl.1 (by omega);have m2:FD p a*((q.size:Int)-1)<=1064960*16384:=Int.mul_le_mul hcl.2 (by omega) (by omega) (by omega);have hm': -9223372036854775808<=FD p a*((q.size:Int)-1)/\FD p a*((q.size:Int)-1)<=9223372036854775807:=by omega
 have h8:=Yk2 p a q (by omega) (by omega) s4 (by omega) g4 hx;generalize Pf.ph a q 0 0 p=P at*;by_cases hz:(p.size:Int)+FD p a*(q.size-1)>16384
 ·rw[if_pos hz,if_neg (by decide)];refine M.F Tryz.func206 ?_;(repeat' first|refine M.go ?_|refine M.c2 (h1) ?_|refine M.c2 (h2) ?_|refine M.c2 (h3) ?_|refine M.c2 (h4) ?_|refine M.c2 (h5) ?_|refine M.c2 (h6) ?_|refine M.c2 (h7) ?_|refine M.z1 13 ?_|refine M.cs ?_ ?_<;>intro h|refine M.gk ?_|fail);all_goals first
   |rfl
   |(exfalso;simp at h;omega)
   |trace_state
 ·rw[if_neg hz,if_pos rfl];refine M.F Tryz.func206 ?_;(repeat' first|refine M.gw ?_|refine M.c2 (h1) ?_|refine M.c2 (h2) ?_|refine M.c2 (h3) ?_|refine M.c2 (h4) ?_|refine M.c2 (h5) ?_|refine M.c2 (h6) ?_|refine M.c2 (h7) ?_|refine M.c2 (h8) ?_|refine M.cs ?_ ?_<;>intro h|fail);all_goals first
   |rfl
   |(exfalso;simp at h;omega)
   |trace_state
theorem GV(p:Pf)(h:p.kind=16\/p.kind=17->p.terms≠[]):PC E 137 [.agg p.view] (.agg [.i (xv p).1,.i (xv p).2]):=by
 by_cases hk:p.kind=16\/p.kind=17
 ·rw[VT hk];obtain⟨k,i,s,ts,fs,zs⟩:=p;simp only[Pf.Ah,Pf.Am,Pf.Ac] at h hk ⊢;cases ts with
  |nil=>exact absurd rfl (h hk)
  |cons t ts=>
   obtain⟨a,b,c,d⟩:=t;refine M.F Tryz.func137 ?_;(repeat' first|refine M.gw ?_|refine M.gs ?_ ?_<;>intro h|refine M.zb ?_|refine M.cs ?_ ?_<;>intro h|fail);all_goals first
    |rfl
    |(exfalso;simp at*;omega)
    |trace_state
 ·by_cases h0:0<p.args.length
  ·rw[VD hk h0];obtain⟨k,i,s,ts,fs,zs⟩:=p;simp only[Pf.Ah,Pf.Am,Pf.Ac] at h hk h0 ⊢;cases zs with
   |nil=>exact absurd h0 (by simp)
   |cons z zs=>
    obtain⟨a1,a2,a3,a4,a5,a6⟩:=z;refine M.F Tryz.func137 ?_;(repeat' first|refine M.gw ?_|refine M.gs ?_ ?_<;>intro h|refine M.zb ?_|refine M.cs ?_ ?_<;>intro h|fail);all_goals first
     |rfl
     |(exfalso;have:=of_decide_eq_false h;simp only[Pf.Ac,List.length_cons] at this;omega)
     |(exfalso;simp at*;omega)
     |trace_state
  ·rw[VO hk h0];obtain⟨k,i,s,ts,fs,zs⟩:=p;simp only[Pf.Ah,Pf.Am,Pf.Ac] at h hk h0 ⊢;refine M.F Tryz.func137 ?_;(repeat' first|refine M.gw ?_|refine M.gs ?_ ?_<;>intro h|refine M.zb ?_|refine M.cs ?_ ?_<;>intro h|fail);all_goals first
    |rfl
    |(exfalso;have:=of_decide_eq_true h;simp only[Pf.Ac] at this;omega)
    |(exfalso;simp at*;omega)
    |trace_state
theorem Ycn:PC E 138 [] (.slice .any (.u 2 (IV.map fun q=>[V.i q.1,V.i q.2]))):=by
 refine M.F Tryz.func138 ?_;(repeat' first|refine M.gw ?_|fail)
 rfl
theorem Uu(p:Pf)(h:p.kind=16\/p.kind=17->p.terms≠[]):PC E 86 [.agg p.view] (.bool (HD p)):=by
 have h1:=GV p h;have h2:=Ycn;unfold HD;obtain⟨a,ha⟩:∃a,a=(xv p).1:=⟨_,rfl⟩;obtain⟨b,hb⟩:∃b,b=(xv p).2:=⟨_,rfl⟩;rw[show xv p=(a,b) by rw[ha,hb]];rw[<-ha,<-hb] at h1;clear ha hb;obtain⟨L0,hL⟩:∃l,l=IV:=⟨_,rfl⟩;rw[<-hL] at h2 ⊢;have hl:L0.length=11:=by rw[hL];rfl
 have hlm:(SL.u 2 (L0.map fun q=>[V.i q.1,V.i q.2])).len=L0.length:=by simp[SL.len]
 clear hL;refine M.F Tryz.func86 ?_;(repeat' first|refine M.gw ?_|refine M.c2 (h1) ?_|refine M.c2 (h2) ?_|fail);rw[hlm];refine AW.range L0.length (fun m=>(a,b)∉L0.take m) (fun m=>([(3,.ptr 1 0),(8,.slice .any (.u 2 (L0.map fun q=>[V.i q.1,V.i q.2]))),(9,.i L0.length),(10,.i m)],⟨2,[(0,.var p.view),(1,.var [.i a,.i b])]⟩))
  (by omega) (fun m=>rfl) (fun m=>rfl) rfl (by simp) (M.W [some 0,some 1]) ?_ ?_
 ·intro m hm hP;(repeat' first|refine M.gw ?_|fail);refine L.ix m (cs:=[.i L0[m].1,.i L0[m].2]) rfl rfl rfl rfl rfl (by rw[hlm];exact hm) (by simp[SL.get,hm]) rfl rfl ?_;by_cases e:L0[m].1=a/\L0[m].2=b
  ·have em:(a,b)∈L0:=by
    have:L0[m]=(a,b):=Prod.ext e.1 e.2;exact this▸List.getElem_mem hm
   rw[decide_eq_true em];(repeat' first|refine M.gw ?_|refine M.bp 3 ?_|refine M.cs ?_ ?_<;>intro h|fail);all_goals first
    |rfl
    |(exfalso;simp[e.1,e.2] at h;done)
    |trace_state
  ·repeat' (first|refine M.gw ?_|refine M.bp 3 ?_|refine M.cs ?_ ?_<;>intro h|fail)
   all_goals first
    |(exfalso;simp at h;exact e h)
    |skip
   refine⟨rfl,fun hc=> ?_,(M.W [some 0,some 1])⟩;rw[List.take_succ_eq_append_getElem hm,List.mem_append] at hc;rcases hc with hc|hc
   ·exact hP hc
   ·simp only[List.mem_singleton] at hc;exact e ⟨by rw[<-hc],by rw[<-hc]⟩
 ·intro hP;rw[List.take_length] at hP;rw[decide_eq_false hP];(repeat' first|refine M.gw ?_|fail)
  rfl
end Go.Ab
