/- A part of this seat's proofs. No conditions. -/
import Derived.Test.YtknjfffhfolkcaaGreatDoorHST14
namespace Go.Ab
open Go Go.Proofs
set_option maxRecDepth 100000
set_option maxHeartbeats 4000000
set_option linter.all false
theorem Pk(Xs:List Bool)(p:Pf)(v y:Int)(h1:p.kind=1\/p.kind=2):AC E 95 [.agg p.view,.agg [.i v,.i y],.ptr 0 0] ⟨1,[(0,.var [.bool (Xs.all id)])]⟩ (.AD []) ⟨1,[(0,.var [.bool ((Xs++De p.kind p.index y).all id)])]⟩:=by
 rw[WQ];generalize Xs.all id=b;unfold De;rw[if_pos h1];cases b;all_goals
  refine M.F Tryz.func95 ?_;(repeat' first|refine M.gw ?_|fail);all_goals first|exfalso;simp_all;done|exact M.n2 [some 0] (h6:=(by(repeat'(first|exact trivial|refine And.intro ?_ ?_|refine⟨_,U,_,U,_,U,?_⟩|exact Ao.refl _|exact Ao.of_eq (by simp[Aq.Ay,WZ,Xo])));done)) (h8:=(by simp[zk,V.wk,V.Ap,zc,Ty.view,Tm.view,WZ,Xo]))
theorem Yie:∀(n:Nat) (p:Pf) (v y:Int) (Xs:List Bool),p.full<=n->n<10000000000->(0<=v/\v+2*n<=50000000000)->(0<=y/\y+2*n<=50000000000)->p.nd->
 AC E 94 [.agg p.view,.agg [.i v,.i y],.agg [.nilf,.nilf,.fn (.func 95) [] [.ptr 0 0]]] ⟨1,[(0,.var [.bool (Xs.all id)])]⟩ (.AD []) ⟨1,[(0,.var [.bool ((Xs++p.Cv (De) y).all id)])]⟩:=by
 intro n;induction n with
 |zero=>intro p v y Xs hz;have:=p.Aa;omega
 |succ n ih=>
 intro p v y Xs hz hn hv hh hs;have hre:=p.BG (De) y;have hsz':=p.Af;have hlen:=zd Pf.full Pf.Aa p.args;have hlen1:=zd Fm.full Fm.Aa p.Ac;have hlen2:=zd Tm.full Tm.Aa p.terms;have hru:=vd p.kind;obtain⟨⟨nd,n1,n4⟩,hpf⟩:=(Pf.BK p).1 hs;have hal:p.args.length<=2:=by
  rw[n4];unfold BD at n1
  repeat(split at n1;· cases n1;decide)
  cases n1
 have hpl:=fun(m:Nat) (hm:m<=1000000)=>y3 p.kind v y nd n1 m hm (by omega) (by omega);have e2:C0 p.kind=[.bool nd.index,.bool nd.typ,.i nd.terms,.i nd.Ac,.i nd.args,.i (Aw p.kind),.i (As p.kind),.i (At p.kind)]:=by unfold C0;rw[n1]
 have b1:0<=As p.kind/\As p.kind<=2:=by unfold As;split<;>(try split)<;>omega
 have b2:0<=At p.kind/\At p.kind<=1:=by unfold At;split<;>omega
 have b3:0<=Aw p.kind/\Aw p.kind<=1:=by unfold Aw;split<;>omega
 rw[n1] at hru;simp only[Xf] at hru;rw[e2] at hru;simp only[e2] at hpl;have hlf:=(fun hk:p.kind=1\/p.kind=2=>Pk Xs p v y hk);have hno:nd.index=false->(De) p.kind p.index y=[]:=fun hi=>by
  have k1:p.kind≠1:=fun e=>by rw[e] at n1;simp[BD] at n1;rw[<-n1] at hi;cases hi
  have k2:p.kind≠2:=fun e=>by rw[e] at n1;simp[BD] at n1;rw[<-n1] at hi;cases hi
  simp[De,k1,k2]
 have hk0:nd.index=true->p.kind=1\/p.kind=2:=fun hi=>by
  refine Xa fun hc=> ?_;have k1:p.kind≠1:=fun e=>hc (.inl e);have k2:p.kind≠2:=fun e=>hc (.inr e);have:nd.index=false:=by
   unfold BD at n1;rw[if_neg (by omega)] at n1
   repeat(split at n1;· cases n1;rfl)
   cases n1
  rw[this] at hi;cases hi
 obtain⟨X1,hX1⟩:∃X1,X1=Xs++(De) p.kind p.index y:=⟨_,rfl⟩;obtain⟨x3,x4,x5,ix,x2⟩:=nd;simp only at n4 hru hpl hno hk0;cases ix
 .have hX:X1=Xs:=by rw[hX1,hno rfl,WR]
  refine M.F Tryz.func94 ?_;(repeat' first|refine M.gw ?_|refine M.c2 (hru) ?_|fail);refine AW.range p.terms.length (fun m=>True)
   (fun m=>([(3,.ptr 1 0),(4,.ptr 2 0),(5,.ptr 3 0),(6,.ptr 4 0),(33,.s .tm p.terms),(34,.i p.terms.length),(35,.i m)],⟨5,[(0,.var [.bool (X1.all id)]),(1,.var p.view),(2,.var [.i v,.i y]),(3,.var [.nilf,.nilf,.fn (.func 95) [] [.ptr 0 0]]),(4,.var [.bool false,.bool x2,.i x3,.i x4,.i x5,.i (Aw p.kind),.i (As p.kind),.i (At p.kind)])]⟩))
   (by omega) (fun m=>rfl) (fun m=>rfl) U trivial (M.W [some 0,some 1,some 2,some 3,some 4] (he:=(by(repeat'(first|exact trivial|refine And.intro ?_ ?_|refine⟨_,U,_,U,_,U,?_⟩|exact Ao.refl _|exact Ao.of_eq (by simp[Aq.Ay,hX])));done))) ?_ ?_
  .intro m hm _;(repeat' first|refine M.gw ?_|fail);exact⟨rfl,trivial,(M.W [some 0,some 1,some 2,some 3,some 4])⟩
  .intro _;skip;(repeat' first|refine M.gw ?_|fail);refine AW.range p.Ac.length (fun m=>True)
    (fun m=>([(3,.ptr 1 0),(4,.ptr 2 0),(5,.ptr 3 0),(6,.ptr 4 0),(50,.s .fm p.Ac),(51,.i p.Ac.length),(52,.i m)],⟨5,[(0,.var [.bool (X1.all id)]),(1,.var p.view),(2,.var [.i v,.i y]),(3,.var [.nilf,.nilf,.fn (.func 95) [] [.ptr 0 0]]),(4,.var [.bool false,.bool x2,.i x3,.i x4,.i x5,.i (Aw p.kind),.i (As p.kind),.i (At p.kind)])]⟩))
    (by omega) (fun m=>rfl) (fun m=>rfl) rfl trivial (M.W [some 0,some 1,some 2,some 3,some 4]) ?_ ?_
   .intro m hm _;(repeat' first|refine M.gw ?_|fail);exact⟨rfl,trivial,(M.W [some 0,some 1,some 2,some 3,some 4])⟩
   .intro _;skip;(repeat' first|refine M.gw ?_|fail);refine AW.range p.args.length (fun m=>True)
     (fun m=>([(3,.ptr 1 0),(4,.ptr 2 0),(5,.ptr 3 0),(6,.ptr 4 0),(70,.s .pf p.args),(71,.i p.args.length),(72,.i m)],⟨5,[(0,.var [.bool ((X1++((Pf.AM (De) y (At p.kind) p.args).take m).flatten).all id)]),(1,.var p.view),(2,.var [.i v,.i y]),(3,.var [.nilf,.nilf,.fn (.func 95) [] [.ptr 0 0]]),(4,.var [.bool false,.bool x2,.i x3,.i x4,.i x5,.i (Aw p.kind),.i (As p.kind),.i (At p.kind)])]⟩))
     (by omega) (fun m=>rfl) (fun m=>rfl) U trivial (M.W [some 0,some 1,some 2,some 3,some 4] (he:=(by(repeat'(first|exact trivial|refine And.intro ?_ ?_|refine⟨_,U,_,U,_,U,?_⟩|exact Ao.refl _|exact Ao.of_eq (by simp[Aq.Ay,WX,Xi,WR])));done))) ?_ ?_
    .intro m hm _;have hs2:=za Pf.full (Wi hm);have hb:=hpl m (by omega);have hc:=ih p.args[m] (if m+1=p.args.length then v+As p.kind else v) (if m+1=p.args.length then y+At p.kind else y) (X1++((Pf.AM (De) y (At p.kind) p.args).take m).flatten) (by omega) (by omega) (by split<;>omega) (by split<;>omega) (hpf _ (Wi hm));have e3:(X1++((Pf.AM (De) y (At p.kind) p.args).take m).flatten)++p.args[m].Cv (De) (if m+1=p.args.length then y+At p.kind else y)=(X1++((Pf.AM (De) y (At p.kind) p.args).take (m+1)).flatten):=by rw[Wr,IX (De) hm]
     rw[e3] at hc;have ev:(if(m:Int)=(x5:Int)-1 then y+At p.kind else y)=(if m+1=p.args.length then y+At p.kind else y):=by
      by_cases hx:m+1=p.args.length
      .rw[if_pos hx,if_pos (by omega)]
      .rw[if_neg hx,if_neg (by omega)]
     have ev2:(if(m:Int)=(x5:Int)-1 then v+As p.kind else v)=(if m+1=p.args.length then v+As p.kind else v):=by
      by_cases hx:m+1=p.args.length
      .rw[if_pos hx,if_pos (by omega)]
      .rw[if_neg hx,if_neg (by omega)]
     rw[ev,ev2] at hb;(repeat' first|refine M.gw ?_|refine M.c2 (hb) ?_|refine M.cv (hc) [0] 0 ?_|fail);exact⟨rfl,trivial,(M.W [some 0,some 1,some 2,some 3,some 4])⟩
    .intro _;rw[hre];simp only[IL];skip
     (exact M.n2 [some 0] (h6:=(by(repeat'(first|exact trivial|refine And.intro ?_ ?_|refine⟨_,U,_,U,_,U,?_⟩|exact Ao.of_eq (by simp[Aq.Ay,hX1,Wr])));done)) (h8:=(by simp[zk,V.wk,V.Ap,zc,Ty.view,Tm.view,hX1,Wr])))
 .have hlf:=hlf (hk0 rfl);refine M.F Tryz.func94 ?_;(repeat' first|refine M.gw ?_|refine M.c2 (hru) ?_|refine M.cv (hlf) [0] 0 ?_|fail);refine AW.range p.terms.length (fun m=>True)
   (fun m=>([(3,.ptr 1 0),(4,.ptr 2 0),(5,.ptr 3 0),(6,.ptr 4 0),(33,.s .tm p.terms),(34,.i p.terms.length),(35,.i m)],⟨5,[(0,.var [.bool (X1.all id)]),(1,.var p.view),(2,.var [.i v,.i y]),(3,.var [.nilf,.nilf,.fn (.func 95) [] [.ptr 0 0]]),(4,.var [.bool true,.bool x2,.i x3,.i x4,.i x5,.i (Aw p.kind),.i (As p.kind),.i (At p.kind)])]⟩))
   (by omega) (fun m=>rfl) (fun m=>rfl) U trivial (M.W [some 0,some 1,some 2,some 3,some 4] (he:=(by(repeat'(first|exact trivial|refine And.intro ?_ ?_|refine⟨_,U,_,U,_,U,?_⟩|exact Ao.refl _|exact Ao.of_eq (by simp[Aq.Ay,hX1])));done))) ?_ ?_
  .intro m hm _;(repeat' first|refine M.gw ?_|fail);exact⟨rfl,trivial,(M.W [some 0,some 1,some 2,some 3,some 4])⟩
  .intro _;skip;(repeat' first|refine M.gw ?_|fail);refine AW.range p.Ac.length (fun m=>True)
    (fun m=>([(3,.ptr 1 0),(4,.ptr 2 0),(5,.ptr 3 0),(6,.ptr 4 0),(50,.s .fm p.Ac),(51,.i p.Ac.length),(52,.i m)],⟨5,[(0,.var [.bool (X1.all id)]),(1,.var p.view),(2,.var [.i v,.i y]),(3,.var [.nilf,.nilf,.fn (.func 95) [] [.ptr 0 0]]),(4,.var [.bool true,.bool x2,.i x3,.i x4,.i x5,.i (Aw p.kind),.i (As p.kind),.i (At p.kind)])]⟩))
    (by omega) (fun m=>rfl) (fun m=>rfl) rfl trivial (M.W [some 0,some 1,some 2,some 3,some 4]) ?_ ?_
   .intro m hm _;(repeat' first|refine M.gw ?_|fail);exact⟨rfl,trivial,(M.W [some 0,some 1,some 2,some 3,some 4])⟩
   .intro _;skip;(repeat' first|refine M.gw ?_|fail);refine AW.range p.args.length (fun m=>True)
     (fun m=>([(3,.ptr 1 0),(4,.ptr 2 0),(5,.ptr 3 0),(6,.ptr 4 0),(70,.s .pf p.args),(71,.i p.args.length),(72,.i m)],⟨5,[(0,.var [.bool ((X1++((Pf.AM (De) y (At p.kind) p.args).take m).flatten).all id)]),(1,.var p.view),(2,.var [.i v,.i y]),(3,.var [.nilf,.nilf,.fn (.func 95) [] [.ptr 0 0]]),(4,.var [.bool true,.bool x2,.i x3,.i x4,.i x5,.i (Aw p.kind),.i (As p.kind),.i (At p.kind)])]⟩))
     (by omega) (fun m=>rfl) (fun m=>rfl) U trivial (M.W [some 0,some 1,some 2,some 3,some 4] (he:=(by(repeat'(first|exact trivial|refine And.intro ?_ ?_|refine⟨_,U,_,U,_,U,?_⟩|exact Ao.refl _|exact Ao.of_eq (by simp[Aq.Ay,WX,Xi,WR])));done))) ?_ ?_
    .intro m hm _;have hs2:=za Pf.full (Wi hm);have hb:=hpl m (by omega);have hc:=ih p.args[m] (if m+1=p.args.length then v+As p.kind else v) (if m+1=p.args.length then y+At p.kind else y) (X1++((Pf.AM (De) y (At p.kind) p.args).take m).flatten) (by omega) (by omega) (by split<;>omega) (by split<;>omega) (hpf _ (Wi hm));have e3:(X1++((Pf.AM (De) y (At p.kind) p.args).take m).flatten)++p.args[m].Cv (De) (if m+1=p.args.length then y+At p.kind else y)=(X1++((Pf.AM (De) y (At p.kind) p.args).take (m+1)).flatten):=by rw[Wr,IX (De) hm]
     rw[e3] at hc;have ev:(if(m:Int)=(x5:Int)-1 then y+At p.kind else y)=(if m+1=p.args.length then y+At p.kind else y):=by
      by_cases hx:m+1=p.args.length
      .rw[if_pos hx,if_pos (by omega)]
      .rw[if_neg hx,if_neg (by omega)]
     have ev2:(if(m:Int)=(x5:Int)-1 then v+As p.kind else v)=(if m+1=p.args.length then v+As p.kind else v):=by
      by_cases hx:m+1=p.args.length
      .rw[if_pos hx,if_pos (by omega)]
      .rw[if_neg hx,if_neg (by omega)]
     rw[ev,ev2] at hb;(repeat' first|refine M.gw ?_|refine M.c2 (hb) ?_|refine M.cv (hc) [0] 0 ?_|fail);exact⟨rfl,trivial,(M.W [some 0,some 1,some 2,some 3,some 4])⟩
    .intro _;rw[hre];simp only[IL];skip
     (exact M.n2 [some 0] (h6:=(by(repeat'(first|exact trivial|refine And.intro ?_ ?_|refine⟨_,U,_,U,_,U,?_⟩|exact Ao.of_eq (by simp[Aq.Ay,hX1,Wr])));done)) (h8:=(by simp[zk,V.wk,V.Ap,zc,Ty.view,Tm.view,hX1,Wr])))
theorem Tx(p:Pf)(hp:p.full<1000000000)(hs:p.shape=true):PC E 55 [.agg p.view] (.bool p.BB):=by
 have h1:=On p (by omega) (Hw p hs);have h2:=Q0 p (by omega) (Hw p hs);have hc:=Yie _ p 0 0 [p.AG&&p.AO] (Wj _) (by omega) (by omega) (by omega) (Hw p hs);unfold Pf.BB;rw[show([p.AG&&p.AO].all id)=(p.AG&&p.AO) by simp] at hc;generalize ([p.AG&&p.AO]++p.Cv De 0).all id=b at*;cases e1:p.AG with
 |false=>
  rw[e1,Xo] at hc;rw[e1] at h1;refine M.F Tryz.func55 ?_;(repeat' first|refine M.gw ?_|refine M.c2 (h1) ?_|refine M.cv (hc) [1] 0 ?_|fail);simp[zk,V.wk,V.Ap,zc,Ty.view,Tm.view]
 |true=>
  rw[e1,WZ] at hc;rw[e1] at h1;generalize p.AO=c at*;refine M.F Tryz.func55 ?_;(repeat' first|refine M.gw ?_|refine M.c2 (h1) ?_|refine M.c2 (h2) ?_|refine M.cv (hc) [1] 0 ?_|fail);simp[zk,V.wk,V.Ap,zc,Ty.view,Tm.view]
theorem TT(p:Pf)(hp:p.full<900000000)(hs:p.shape=true):PC E 56 [.agg p.view] (.AD [.agg (yn p).1.view,.bool (yn p).2.1,.i (yn p).2.2]):=by
 have h1:=Zzn _ p (Wj _) (by omega) hs;have hf:=ON p;have h2:=Nw p.nx.1 (by omega);unfold yn;generalize p.nx=R at*;obtain⟨u,f,e⟩:=R;simp only at h1 h2 ⊢;by_cases he:e=0
 .subst he;by_cases hu:u.err=0
  .rw[if_neg (by simp[hu])];rw[hu] at h2;refine M.F Tryz.func56 ?_;(repeat' first|refine M.gw ?_|refine M.c2 (h1) ?_|refine M.c2 (h2) ?_|fail)
   rfl
  .rw[if_pos (.inr hu)];refine M.F Tryz.func56 ?_;(repeat' first|refine M.gw ?_|refine M.c2 (h1) ?_|refine M.c2 (h2) ?_|refine M.cs ?_ ?_<;>intro h|fail);all_goals first
    |rfl
    |(exfalso;simp at h;exact hu h)
    |trace_state
 .rw[if_pos (.inl he)];refine M.F Tryz.func56 ?_;(repeat' first|refine M.gw ?_|refine M.c2 (h1) ?_|refine M.c2 (h2) ?_|refine M.gs ?_ ?_<;>intro h|refine M.cs ?_ ?_<;>intro h|fail);all_goals first
   |rfl
   |(exfalso;simp at h;exact he h)
   |(exfalso;simp_all;done)
   |trace_state
theorem Zw9(p:Pf)(hp:p.full<900000000):PC E 12 [.agg p.view] (.AD [.bool (decide (p.err=0)&&xl p),.i p.err]):=by
 have h1:=Nw p (by omega);by_cases he:p.err=0
 .have h2:=Qm p (Pp ((Pf.Ad p).1 he).1);rw[he] at h1 ⊢;generalize xl p=b at*;refine M.F Tryz.func12 ?_;(repeat' first|refine M.gw ?_|refine M.c2 (h1) ?_|refine M.c2 (h2) ?_|fail)
  rfl
 .rw[decide_eq_false he,Xo];refine M.F Tryz.func12 ?_;(repeat' first|refine M.gw ?_|refine M.c2 (h1) ?_|refine M.cs ?_ ?_<;>intro h|fail);all_goals first
   |rfl
   |(exfalso;simp at h;exact he h)
   |trace_state
theorem Sc(p:Pf)(hp:p.full<900000000):PC E 14 [.agg p.view] (.AD [.agg (FJ p).1.view,.bool (FJ p).2.1,.i (FJ p).2.2]):=by
 have h1:=Nw p (by omega);unfold FJ;by_cases he:p.err=0;case neg=>
  rw[if_pos he];refine M.F Tryz.func14 ?_;(repeat' first|refine M.gw ?_|refine M.c2 (h1) ?_|refine M.cs ?_ ?_<;>intro h|fail);all_goals first
   |rfl
   |(exfalso;simp at h;exact he h)
   |trace_state
 rw[if_neg (by simp[he])];have hs:=((Pf.Ad p).1 he).1;have h2:=Tx p (by omega) hs;have h3:=TT p hp hs;have e3:= @H9 p;rw[he] at h1;by_cases hn:p.BB=false
 .rw[if_pos hn];rw[hn] at h2;refine M.F Tryz.func14 ?_;(repeat' first|refine M.gw ?_|refine M.c2 (h1) ?_|refine M.c2 (h2) ?_|fail)
  rfl
 rw[if_neg hn];rw[XF] at hn;rw[hn] at h2;by_cases hq:(yn p).2.2=0
 .rw[if_neg (by simp[hq])];obtain⟨_,e1,_,e2⟩:=e3 hq;rw[<-e1] at e2;have h4:=Va (yn p).1 (by have:=yj e2;omega) ((Pf.Ad _).1 e2).1;generalize yn p=R at*;obtain⟨u,f,e⟩:=R;simp only at h3 h4 hq ⊢;subst hq;refine M.F Tryz.func14 ?_;(repeat' first|refine M.gw ?_|refine M.c2 (h1) ?_|refine M.c2 (h2) ?_|refine M.c2 (h3) ?_|refine M.c2 (h4) ?_|fail)
  rfl
 .rw[if_pos hq];clear e3;generalize yn p=R at*;obtain⟨u,f,e⟩:=R;simp only at h3 hq ⊢;refine M.F Tryz.func14 ?_;(repeat' first|refine M.gw ?_|refine M.c2 (h1) ?_|refine M.c2 (h2) ?_|refine M.c2 (h3) ?_|refine M.cs ?_ ?_<;>intro h|fail);all_goals first
   |rfl
   |(exfalso;simp at h;exact hq h)
   |trace_state
theorem Zr6(p:Pf)(s:Int)(hp:p.full<900000000)(hsb: -9223372036854775808<=s/\s<=9223372036854775807):PC E 18 [.agg p.view,.i s] (.AD [.agg (Gd p s).1.view,.i (Gd p s).2.1,.i (Gd p s).2.2]):=by
 have h1:=Nw p (by omega);unfold Gd;by_cases he:p.err=0;case neg=>
  rw[if_pos he];refine M.F Tryz.func18 ?_;(repeat' first|refine M.go ?_|refine M.c2 (h1) ?_|refine M.z1 4 ?_|refine M.cs ?_ ?_<;>intro h|refine M.gk ?_|fail);all_goals first
   |rfl
   |(exfalso;simp at h;exact he h)
   |trace_state
 rw[if_neg (by simp[he])];have hs:=((Pf.Ad p).1 he).1;have h2:=Tx p (by omega) hs;rw[he] at h1;by_cases hb:s<0\/s>65536\/p.BB=false
 .rw[if_pos hb];by_cases b1:s<0
  .refine M.F Tryz.func18 ?_;(repeat' first|refine M.gw ?_|refine M.c2 (h1) ?_|refine M.c2 (h2) ?_|refine M.gs ?_ ?_<;>intro h|refine M.cs ?_ ?_<;>intro h|fail);all_goals first
    |rfl
    |(exfalso;simp at h;omega)
    |(exfalso;simp only[decide_eq_false_iff_not,decide_eq_true_eq] at*;omega)
    |trace_state
  by_cases b2:s>65536
  .refine M.F Tryz.func18 ?_;(repeat' first|refine M.gw ?_|refine M.c2 (h1) ?_|refine M.c2 (h2) ?_|refine M.gs ?_ ?_<;>intro h|refine M.cs ?_ ?_<;>intro h|fail);all_goals first
    |rfl
    |(exfalso;simp at h;omega)
    |(exfalso;simp only[decide_eq_false_iff_not,decide_eq_true_eq] at*;omega)
    |trace_state
  have b3:=(hb.resolve_left b1).resolve_left b2;rw[b3] at h2;refine M.F Tryz.func18 ?_;(repeat' first|refine M.gw ?_|refine M.c2 (h1) ?_|refine M.c2 (h2) ?_|refine M.gs ?_ ?_<;>intro h|fail);all_goals first
   |rfl
   |(exfalso;simp at h;omega)
   |(exfalso;simp only[decide_eq_false_iff_not,decide_eq_true_eq] at*;omega)
   |trace_state
 rw[if_neg hb];have b1:¬s<0:=fun h=>hb (.inl h);have b2:¬s>65536:=fun h=>hb (.inr (.inl h));have b3:p.BB=true:=by cases e:p.BB with|true=>rfl|false=>exact absurd (.inr (.inr e)) hb
 rw[b3] at h2;refine M.F Tryz.func18 ?_;(repeat' first|refine M.gw ?_|refine M.c2 (h1) ?_|refine M.c2 (h2) ?_|refine M.gs ?_ ?_<;>intro h|fail);all_goals first
  |(exfalso;simp only[decide_eq_false_iff_not,decide_eq_true_eq] at*;omega)
  |skip
 obtain⟨R,hR⟩:∃R,R=FH s.toNat p 0:=⟨_,rfl⟩;rw[<-hR];refine AW.block (AW.loop (ι:={x:Pf×Nat // x.1.err=0/\(x.2:Int)<=s/\FH (s-x.2).toNat x.1 x.2=R})
  (fun x=>([(1,.i s),(2,.ptr 0 0),(4,.ptr 1 0),(8,.i x.1.2)],⟨2,[(0,.var x.1.1.view),(1,.var [.i 0,.i 0,.i 0,.slice .nil (.t .ty []),.slice .nil (.t .tm []),.slice .nil (.t .fm []),.slice .nil (.t .pf [])])]⟩))
  (fun x=>(s-x.1.2).toNat) ⟨(p,0),he,by simp only;omega,by rw[hR];simp⟩ (M.W [some 0,some 1]) fun⟨⟨q,n⟩,qe,qn,qR⟩=> ?_)
 simp only at qe qn qR;have qf:=yj qe;have qs:=((Pf.Ad q).1 qe).1;have d1:=Ybe _ q (Wj _) (by omega) qs;have d2:=Va q (by omega) qs;have d3:=TT q (by omega) qs;by_cases hns:(n:Int)=s
 .rw[show(s-(n:Int)).toNat=0 by omega] at qR;unfold FH at qR;cases hd:q.direct with
  |true=>
   rw[hd] at d1 qR;rw[if_pos rfl] at qR;have hnb:((n:Int)==s)=true:=by simp[hns]
   (repeat' first|refine M.gw ?_|refine M.c2 (d1) ?_|refine M.c2 (d2) ?_|refine M.zb ?_|refine M.cs ?_ ?_<;>intro h|fail);all_goals first|exfalso;simp at h;omega|(subst qR;rfl)
  |false=>
   rw[hd] at d1 qR;rw[if_neg (by simp)] at qR;(repeat' first|refine M.gw ?_|refine M.c2 (d1) ?_|refine M.zb ?_|refine M.cs ?_ ?_<;>intro h|fail);all_goals first|exfalso;simp at h;omega|(subst qR;rfl)
 .obtain ⟨k,hk⟩:∃k,(s-(n:Int)).toNat=k+1:=⟨(s-(n:Int)).toNat-1,by omega⟩;rw[hk] at qR;unfold FH at qR;have e3:= @H9 q;by_cases h0:(yn q).2.2=0;case neg=>
   rw[if_pos h0] at qR;clear e3;generalize yn q=T at*;obtain⟨u,f,e⟩:=T;simp only at d3 h0 qR;(repeat' first|refine M.go ?_|refine M.c2 (d3) ?_|refine M.z1 15 ?_|refine M.zb ?_|refine M.cs ?_ ?_<;>intro h|refine M.gk ?_|fail);all_goals first|exfalso;simp at h;omega|(subst qR;rfl)
  rw[if_neg (by simp[h0])] at qR;obtain⟨_,e4,_,e5⟩:=e3 h0;rw[<-e4] at e5;generalize yn q=T at*;obtain⟨u,f,e⟩:=T;simp only at d3 h0 qR e5;subst h0;cases f with
  |false=>
   rw[if_pos rfl] at qR;(repeat' first|refine M.gw ?_|refine M.c2 (d3) ?_|refine M.c2 (d2) ?_|refine M.zb ?_|refine M.cs ?_ ?_<;>intro h|fail);all_goals first|exfalso;simp at h;omega|(subst qR;rfl)
  |true=>
   rw[if_neg (by simp)] at qR;(repeat' first|refine M.gw ?_|refine M.c2 (d3) ?_|refine M.zb ?_|refine M.cs ?_ ?_<;>intro h|fail);all_goals first
    |(exfalso;simp at h;omega)
    |skip
   have hw:IntKind.i64.wrap ((n:Int)+1)=((n+1:Nat):Int):=by rw[IntWalk.i64_in _ (by omega)];omega
   refine⟨⟨(u,n+1),e5,by simp only;omega,?_⟩,?_,?_⟩
   .simp only;rw[show(s-((n+1:Nat):Int)).toNat=k by omega,show((n+1:Nat):Int)=(n:Int)+1 by omega];exact qR
   .simp only;omega
   .simp only[hw];exact(M.W [some 0,some 1])
theorem Ih(i:Int):PC E 44 [.i i] (.agg (va i).view):=by
 refine M.F Tryz.func44 ?_;(repeat' first|refine M.gw ?_|fail)
 rfl
theorem Rm(t:Tm)(he:t.shape=true)(hf:t.full<100000000000)(hix:∀p∈t.vars 0,0<=p.1/\p.1<549755813888):PC E 155 [.agg t.view,.i 1] (.agg (t.re (zx 0 1) 0).view):=by
 have h:=J2 1 (by omega) _ t 0 (Wj _) (by omega) (by omega) (by omega) he hix;generalize t.re (zx 0 1) 0=u at*;refine M.F Tryz.func155 ?_;(repeat' first|refine M.gw ?_|refine M.c2 (h) ?_|fail);simp[zk,V.wk,V.Ap,zc,Ty.view,Tm.view]
theorem Zx3(g s:Tm)(p:Pf)(hg:C5 g)(hs:C5 s)(hp:p.full<100000000000):PC E 115 [.agg g.view,.agg s.view,.agg p.view] (.agg (HG g s p).view):=by
 have f1:=hg.2.2;have f2:=hs.2.2;have l1:=I2 0 1 g 0 hg.1;have l2:=I2 0 1 s 0 hs.1;have h1:=Rm g hg.1 (by omega) (fun q hq=>by have:=hg.2.1 q hq;omega);have h2:=Rm s hs.1 (by omega) (fun q hq=>by have:=hs.2.1 q hq;omega);have h3:=Ek 0;have h4:=CH 3 [g,s] (by simp;omega);unfold HG R8 wm;generalize g.re (zx 0 1) 0=g1 at*;generalize s.re (zx 0 1) 0=s1 at*;have h5:=CH 3 [g1,s1] (by simp;omega);have h6:=CH 3 [g1,vT 0] (by simp[Jp];omega);have h7:=GQ (A0 g1 s1) (A0 g1 (vT 0)) (by rw[JQ];omega) (by rw[JQ,Jp];omega);have h8:=xt (A0 g s) (by rw[JQ];omega);have h9:=SZ (Bf (A0 g1 s1) (A0 g1 (vT 0))) p (.mk 18 0 (.mk 0 []) [A0 g s] [] []) (by rw[LY,JQ,JQ,Jp];omega) (by omega) (by rw[wb,ug];simp[JQ];omega);refine M.F Tryz.func115 ?_;(repeat' first|refine M.gw ?_|refine M.c2 (h1) ?_|refine M.c2 (h2) ?_|refine M.c2 (h3) ?_|refine M.c2 (h4) ?_|refine M.c2 (h5) ?_|refine M.c2 (h6) ?_|refine M.c2 (h7) ?_|refine M.c2 (h8) ?_|refine M.c2 (h9) ?_|fail);all_goals first
  |rfl
  |trace_state
theorem Zny(ts:List Tm)(p:Pf)(ht:∀t∈ts,t.err=0)(hp:p.err=0)(hpf:p.full<500000000000)(hl:ts.length<=1000):PC E 116 [.s .tm ts,.s .fm [],.s .pf [p]] (.i 0):=by
 have hk:=v7 p (by omega);rw[hp] at hk;refine M.F Tryz.func116 ?_;(repeat' first|refine M.gw ?_|fail);refine AW.range ts.length (fun m=>True) (fun m=>([(1,.s .fm []),(2,.s .pf [p]),(16,.s .tm ts),(17,.i ts.length),(18,.i m)],⟨0,[]⟩))
  (by omega) (fun m=>rfl) (fun m=>rfl) rfl trivial (M.W []) ?_ ?_
 .intro m hm _;have hc:=wx ts[m] (by have:=z6 (ht _ (Wi hm));omega);rw[ht _ (Wi hm)] at hc;(repeat' first|refine M.gw ?_|refine M.c2 (hc) ?_|fail);exact⟨rfl,trivial,(M.W [])⟩
 intro _;(repeat' first|refine M.gw ?_|fail);refine AW.range ([]:List Fm).length (fun m=>True) (fun m=>([(2,.s .pf [p]),(28,.s .fm []),(29,.i ([]:List Fm).length),(30,.i m)],⟨0,[]⟩))
  (by simp) (fun m=>rfl) (fun m=>rfl) rfl trivial (M.W []) ?_ ?_
 .intro m hm _;exact absurd hm (by simp)
 intro _;(repeat' first|refine M.gw ?_|fail);refine AW.range ([p]:List Pf).length (fun m=>True) (fun m=>([(40,.s .pf [p]),(41,.i ([p]:List Pf).length),(42,.i m)],⟨0,[]⟩))
  (by simp) (fun m=>rfl) (fun m=>rfl) rfl trivial (M.W []) ?_ ?_
 .intro m hm _;obtain rfl:m=0:=by simpa using hm
  (repeat' first|refine M.gw ?_|refine M.c2 (hk) ?_|fail);exact⟨rfl,trivial,(M.W [])⟩
 intro _;(repeat' first|refine M.gw ?_|fail)
 rfl
theorem Zsd(p:Pf)(hp:p.err=0)(hpf:p.full<500000000000):PC E 114 [.agg p.view,.i 0] (.AD [.agg p.view,.i 0]):=by
 have h1:=L1 p (by omega);have h2:=(Pf.Ad p).1 hp;have e:(p.small&&decide (p.size<=16384))=true:=by simp[h2.2.1,h2.2.2]
 rw[e] at h1;have h3:=Jj _ p (Wj _) (by omega);refine M.F Tryz.func114 ?_;(repeat' first|refine M.gw ?_|refine M.c2 (h1) ?_|refine M.c2 (h3) ?_|fail)
 rfl
theorem Ztw(g s t:Tm)(p:Pf)(hg:C5 g)(hs:C5 s)(eg:g.err=0)(es:s.err=0)(et:t.err=0)(ep:p.err=0)(hp:p.full<100000000000)(ec:(HG g s p).err=0):
 PC E 86 [.agg g.view,.agg s.view,.agg t.view,.agg p.view] (.AD [.agg (HG g s p).view,.i 0]):=by
 have f1:=hg.2.2;have f2:=hs.2.2;have h1:=Zx3 g s p hg hs hp;have h2:=Zny [g,s,t] p (by simp[eg,es,et]) ep (by omega) (by simp);have h3:=Zsd (HG g s p) ec (by have:=IM _ ((Pf.Ad _).1 ec).1;have:=((Pf.Ad _).1 ec).2.2;omega);generalize HG g s p=P at*;refine M.F Tryz.func86 ?_;(repeat' first|refine M.gw ?_|refine M.c2 (h1) ?_|refine M.c2 (h2) ?_|refine M.c2 (h3) ?_|fail);all_goals first
  |rfl
  |trace_state
def Cg:Tm:=A0 (A0 Cr zT) (vT 0)
def Cc:Pf:=HG Em Cg (va 0)
def Io(t:Tm):Pf:= .mk 16 0 (.mk 0 []) [t] [Bf Cg (vT 0)] [wm zT,Cc]
theorem GU(t:Tm)(h1:t.shape=true)(h2:(t.vars 0).all (fun q=>decide (0<=q.1/\q.1<10000))=true)(h3:t.full<=300000):C5 t:=
 ⟨h1,fun q hq=>by simpa using List.all_eq_true.1 h2 q hq,h3⟩
theorem Ro(t:Tm)(ht:t.full<100000000000):PC E 46 [.agg t.view] (.agg (Io t).view):=by
 have h1:=R1;have h2:=GS 0;have e0:xy 0=zT:=by decide
 rw[e0] at h2;have h3:=Ek 0;have h4:=Om Cr [zT,vT 0] (by decide);have h5:=GQ Cg (vT 0) (by decide) (by decide);have h6:=vk;have h7:=CH 5 [vT 0] (by decide);have h8:=Ft 2 Ag [sT (vT 0)] (by decide) (by decide);have h9:=Ih 0;have h10:=Ztw Em Cg (vT 0) (va 0) (GU _ (by decide+kernel) (by decide+kernel) (by decide+kernel)) (GU _ (by decide+kernel) (by decide+kernel) (by decide+kernel)) (by decide+kernel) (by decide+kernel) (by decide+kernel) (by decide+kernel) (by decide+kernel) (by decide+kernel);have hz:Cc.full<1000:=by decide+kernel
 have h11:=xt zT (by decide);have h12:=IG 16 (Bf Cg (vT 0)) t (.mk 18 0 (.mk 0 []) [zT] [] []) Cc (by decide+kernel) (by omega) (by decide+kernel) (by omega);have e1:HG Em Cg (va 0)=Cc:=rfl;rw[e1] at h10;have e2:List.foldl A0 Cr [zT,vT 0]=Cg:=rfl;rw[e2] at h4;unfold Io;generalize Cc=Z at*;generalize va 0=H at*;generalize Cg=P0 at*;refine M.F Tryz.func46 ?_;(repeat' first|refine M.gw ?_|refine M.c2 (h1) ?_|refine M.c2 (h2) ?_|refine M.c2 (h3) ?_|refine M.c2 (h4) ?_|refine M.c2 (h5) ?_|refine M.c2 (h6) ?_|refine M.c2 (h7) ?_|refine M.c2 (h8) ?_|refine M.c2 (h9) ?_|refine M.c2 (h10) ?_|refine M.c2 (h11) ?_|refine M.c2 (h12) ?_|fail);all_goals first
  |rfl
  |trace_state
def Jd(t:Tm):Fm:=Br 5 Ag (Bf (t.re (zx 0 1) 0) (vT 0))
theorem Ue(d:Dk)(hd:d.ok)(g:List Ty)(hyps:List Fm)(hg:Am g)(hl:g.length<=16):
 AC E 48 [.ptr 0 0,.agg [.s .ty g,.s .fm hyps]] ⟨1,[(0,.var d.cells)]⟩ (.agg [.i 10,.i 0,.i 0,.s .ty [],.s .tm [(Dk.tm 3 d g Ag).1],.arr 1 1 5,.s .pf [wm (Dk.tm 3 d g Ag).1]])
  ⟨2,[(0,.var (Dk.tm 3 d g Ag).2.cells),(1,.var (Jd (Dk.tm 3 d g Ag).1).view)]⟩/\
 AC E 48 [.ptr 0 0,.agg [.s .ty g,.s .fm hyps]] ⟨1,[(0,.var d.cells)]⟩ (.agg (KC (Jd (Dk.tm 3 d g Ag).1) (Dk.tm 3 d g Ag).1 (wm (Dk.tm 3 d g Ag).1)).view)
  ⟨1,[(0,.var (Dk.tm 3 d g Ag).2.cells)]⟩:=by
 have h1:=vk;have h2:=Ir 3 (by omega) d g Ag 1 (by omega) hd hg zh (by omega) (by omega) (by omega);have hm:=(un d hg).1;have hf:=z6 hm.err;generalize Dk.tm 3 d g Ag=T at*;obtain⟨t,d2⟩:=T;simp only at hm hf;have h3:=PX (g:=g) hm.err hm.inf (by omega);have h4:=Ek 0;have l1:=I2 0 1 t 0 hm.shape;have h7:=xt t (by omega);unfold Jd KC wm;generalize t.re (zx 0 1) 0=u at*;have h5:=GQ u (vT 0) (by omega) (by rw[Jp];omega);have h6:=FO 5 Ag (Bf u (vT 0)) (by decide) (by rw[LY,Jp];omega);have fq:(Br 5 Ag (Bf u (vT 0))).full<1000000:=by have e:Ag.size=1:=rfl;simp only[Br,Fm.full,Fm.Au,WI,WU];rw[LY,Jp,e];omega
 have fr:(Pf.mk 18 0 (.mk 0 []) [t] [] []).full<1000000:=by rw[wb,ug];simp;omega
 have h8:=Zz0 10 (Br 5 Ag (Bf u (vT 0))) t (.mk 18 0 (.mk 0 []) [t] [] []) (by omega) (by omega) (by omega);have h9:=Iy 10 (Br 5 Ag (Bf u (vT 0))) t (.mk 18 0 (.mk 0 []) [t] [] []) (by omega) (by omega) (by omega);constructor
 .refine M.F Tryz.func48 ?_;(repeat' first|refine M.gw ?_|refine M.c2 (h1) ?_|refine M.cb (h2) [0] 0 ?_|refine M.c2 (h3) ?_|refine M.c2 (h4) ?_|refine M.c2 (h5) ?_|refine M.c2 (h6) ?_|refine M.c2 (h7) ?_|refine M.cb (h8) [] 1 ?_|fail);refine K.rt [some 0,some 5] rfl rfl rfl rfl rfl ?_ rfl ?_
  .exact ⟨⟨_,rfl,_,rfl,_,rfl,Bp.refl _⟩,⟨_,rfl,_,rfl,_,rfl,Bp.refl _⟩,trivial⟩
  .first
    |exact Ao.refl _
    |(refine Ao.of_eq ?_;simp[zk,Ty.view,Tm.view];rfl)
 .refine M.F Tryz.func48 ?_;(repeat' first|refine M.gw ?_|refine M.c2 (h1) ?_|refine M.cb (h2) [0] 0 ?_|refine M.c2 (h3) ?_|refine M.c2 (h4) ?_|refine M.c2 (h5) ?_|refine M.c2 (h6) ?_|refine M.c2 (h7) ?_|refine M.c2 (h9) ?_|fail)
  (exact M.n2 [some 0] (h8:=(by simp[zk,V.wk,V.Ap,zc,Ty.view,Tm.view,Pf.view])))
def Dk.Of(d:Dk):Nat:=(d.next 3).1.toNat
def Dk.lm(d:Dk):List Fm×Dk:=Dk.CW d.Of (d.next 3).2 []
theorem Dk.Ii(d:Dk):d.lm.1.length<=2:=by
 have:=Dk.Bv d 3 (by omega);unfold Dk.lm Dk.Of;rw[Dk.Db];omega
theorem Dk.HU{d:Dk}(h:d.ok):d.lm.2.ok:=Dk.DI _ _ _ (Dk.AH h 3)
theorem Ya3(d:Dk)(hd:d.ok):AC E 8 [.ptr 0 0] ⟨1,[(0,.var d.cells)]⟩ (.s .fm d.lm.1) ⟨1,[(0,.var d.lm.2.cells)]⟩:=by
 have h1:=v6 d 3 hd (by omega);have hb:=Dk.Bv d 3 (by omega);obtain⟨c,hc⟩:∃c:Nat,(d.next 3).1=c:=⟨(d.next 3).1.toNat,by omega⟩;have hx:d.lm=Dk.CW c (d.next 3).2 []:=by unfold Dk.lm Dk.Of;rw[hc];rfl
 rw[hc] at h1 hb;rw[hx];have hdo:=Dk.AH hd 3;generalize (d.next 3).2=d2 at*;refine M.F Tryz.func8 ?_;(repeat' first|refine M.gw ?_|refine M.cb (h1) [0] 0 ?_|fail);refine AW.down c (fun m=>m<=c)
  (fun m=>([(0,.ptr 0 0),(3,.slice (.own 1) (.t .fm (Dk.CW (c-m) d2 []).1)),(4,.i m)],⟨2,[(0,.var (Dk.CW (c-m) d2 []).2.cells),(1,.row)]⟩))
  (by omega) (fun m=>rfl) rfl (Wj _) ?_ ?_ ?_
 .simp only[X6];exact(M.W [some 0,none])
 .intro m hm hP;have e:=Dk.DL (c-(m+1)) d2 [];rw[show c-(m+1)+1=c-m by omega] at e;have h3:=OL 2 (Dk.CW (c-(m+1)) d2 []).2 [] 2 (by omega) rfl (Dk.DI _ _ _ hdo) zn (by simp);have hl:=Dk.Db (c-(m+1)) d2 [];(repeat' first|refine M.gw ?_|refine M.cb (h3) [0] 0 ?_|fail);refine⟨rfl,by omega,?_⟩;simp only[e];exact(M.W [some 0,some 2])
 .intro _;simp only[ZA];(repeat' first|refine M.gw ?_|fail)
  (exact M.n2 [some 0] (h8:=(by simp[zk,V.wk,V.Ap,zc,Ty.view,Tm.view,V.BQ])))
end Go.Ab
