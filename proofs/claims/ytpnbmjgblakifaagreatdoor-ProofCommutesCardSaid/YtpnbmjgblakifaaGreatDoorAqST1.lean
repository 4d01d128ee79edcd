/- A part of the proofs of this seat. No conditions. -/
import Derived.Test.YtpnbmjgblakifaaGreatDoorY1
import Derived.Test.YtpnbmjgblakifaaGreatDoorAqDT1
import Derived.Test.YtpnbmjgblakifaaGreatDoorST6
namespace Go.Ab
open Go Go.Proofs
set_option maxRecDepth 100000
set_option maxHeartbeats 4000000
set_option linter.all false
theorem Vu(i:Int):PC E 40 [.i i] (.agg (xo i).view):=by
 refine M.F Tryz.func40 ?_;(repeat' first|refine M.gw ?_|fail)
 rfl
theorem Yey(p:Pf)(fr by_:Int)(hp:p.full<274877906944):PC E 27 [.agg p.view,.i fr,.i by_] (.Az [.agg (if v4 p fr by_=0 then p.uw fr by_ 0 else Bc).view,.i (v4 p fr by_)]):=by
 have h1:=vj p hp;by_cases he:p.err=0;case neg=>
  rw[OP he,if_neg he];refine M.F Tryz.func27 ?_;(repeat' first|refine M.go ?_|refine M.c2 (h1) ?_|refine M.z1 4 ?_|refine M.cs ?_ ?_<;>intro h|refine M.gk ?_|fail);all_goals first
   |rfl
   |(exfalso;simp at h;exact he h)
   |trace_state
 obtain⟨g1,g2,g3,g4,g5,g6⟩:=LA he;rw[he] at h1;have h2:=M5 fr 4096;have h3:=M5 by_ 4096;have h4:=ND p (by omega) g4;by_cases hg:¬(0<=fr/\fr<=4096)\/¬(0<=by_/\by_<=4096)\/p.AN=false
 ·rw[Zty he hg,if_neg (by decide)];by_cases a1:0<=fr/\fr<=4096
  ·rw[decide_eq_true a1] at h2;by_cases a2:0<=by_/\by_<=4096
   ·rw[decide_eq_true a2] at h3;have a3:p.AN=false:=(hg.resolve_left (fun h=>h a1)).resolve_left (fun h=>h a2);rw[a3] at h4;refine M.F Tryz.func27 ?_;(repeat' first|refine M.gw ?_|refine M.c2 (h1) ?_|refine M.c2 (h2) ?_|refine M.c2 (h3) ?_|refine M.c2 (h4) ?_|fail)
    rfl
   ·rw[decide_eq_false a2] at h3;refine M.F Tryz.func27 ?_;(repeat' first|refine M.gw ?_|refine M.c2 (h1) ?_|refine M.c2 (h2) ?_|refine M.c2 (h3) ?_|fail)
    rfl
  ·rw[decide_eq_false a1] at h2;refine M.F Tryz.func27 ?_;(repeat' first|refine M.gw ?_|refine M.c2 (h1) ?_|refine M.c2 (h2) ?_|fail)
   rfl
 ·rw[RC he hg,if_pos rfl];obtain⟨a1,a2,a3⟩:=(show(0<=fr/\fr<=4096)/\(0<=by_/\by_<=4096)/\p.AN=true from⟨Decidable.not_not.1 fun h=>hg (.inl h),Decidable.not_not.1 fun h=>hg (.inr (.inl h)),by cases h:p.AN with|true=>rfl|false=>exact absurd (.inr (.inr h)) hg⟩);rw[decide_eq_true a1] at h2;rw[decide_eq_true a2] at h3;rw[a3] at h4;have h5:=Ym p fr by_ (by omega) (by omega) g4;generalize p.uw fr by_ 0=P at*;refine M.F Tryz.func27 ?_;(repeat' first|refine M.gw ?_|refine M.c2 (h1) ?_|refine M.c2 (h2) ?_|refine M.c2 (h3) ?_|refine M.c2 (h4) ?_|refine M.c2 (h5) ?_|fail)
  rfl
end Go.Ab
namespace Go.Ab
open Go Go.Proofs Go.RowKit
set_option linter.all false
set_option maxRecDepth 100000
theorem Ybi(m:Nat):AnyZI.SortsIn E.P Tryz.sortedA_ren Fence.wide m:=
 ⟨fun blk off cap ss W hH hblk hsz=>callsIn_wide.2 (AnyM.slices_Sort_int Tryz.sortA blk off cap ss W hH hblk hsz),fun p cap W=>callsIn_wide.2 (AnyM.slices_Sort_int_none Tryz.sortA p cap W)⟩
theorem Zt1{σ:Ao}{n:Nat}(h:n<σ.nx):AC E 232 [.mp n] σ (.fn (.func 255) [] [.ptr σ.nx 0]) ⟨σ.nx+1,(σ.nx,.var [.mp n])::σ.es⟩:=
 AC.mapKeys (E:=E) (ρ7:=Tryz.keysB_ren) Tryz.keysB (enters_of Tryz.func232 (by kernel_rfl) rfl) h
theorem Zw8{σ:Ao}{n b:Nat}{c:EC}{ks:List Int}{xs:List c.sem}(hb:zk σ.es b=some (.var [.mp n]))(hn:zk σ.es n=some (.map c ks xs))
 (hnd:ks.Nodup) (hwf:∀x∈ks,(Lit.int .i64 x).wf=true) (hmax:ks.length<549755813888):
 AC E 231 [.fn (.func 255) [] [.ptr b 0]] σ (.s .int (yj ks)) σ:=
 AC.Fi (E:=E) (ρ7:=Tryz.keysB_ren) (ρ6:=Tryz.sortedA_ren) Tryz.keysB Tryz.sortedA Ybi (enters_of Tryz.func231 (by kernel_rfl) rfl) (enters_of Tryz.func254 (by kernel_rfl) rfl)
  (enters_of Tryz.func255 (by kernel_rfl) rfl) (by kernel_rfl) hb hn hnd hwf (Nat.le_trans (Nat.le_of_lt hmax) (by decide)) (by omega)
end Go.Ab
namespace Go.Ab
open Go Go.Proofs
set_option maxRecDepth 100000
set_option maxHeartbeats 4000000
set_option linter.all false
theorem Yco(ks:List Int)(n:Int):AC E 137 [.mp 0,.i n] ⟨1,[(0,.map .bl ks (List.replicate ks.length true))]⟩ (.Az []) ⟨1,[(0,.map .bl (if 0<=n then v9 n ks else ks) (List.replicate (if 0<=n then v9 n ks else ks).length true))]⟩:=by
 by_cases h0:0<=n
 ·rw[if_pos h0];refine M.F Tryz.func137 ?_;(repeat' first|refine M.gw ?_|refine M.cs ?_ ?_<;>intro h|fail);all_goals first|exfalso;simp at h;omega|exact M.n2 [some 0] (h6:=(by(repeat'(first|exact trivial|refine And.intro ?_ ?_|refine⟨_,U,_,_,U,?_,?_⟩|with_reducible exact rfl|(simp[Ao.Ax,Kn];done)));done)) (h8:=(by simp[zj,V.wk,V.Ap,za,Ty.view,Tm.view,Kn]))
 ·rw[if_neg h0];refine M.F Tryz.func137 ?_;(repeat' first|refine M.gw ?_|refine M.cs ?_ ?_<;>intro h|fail);all_goals first|exfalso;simp at h;omega|exact M.n2 [some 0] (h8:=(by simp[zj,V.wk,V.Ap,za,Ty.view,Tm.view,Kn]))
theorem Px(Xs:List Int)(p:Pf)(v y:Int)(hp:p.kind=1->0<=p.index/\p.index<9223372036854775808)(hy:0<=y/\y<100000000000):
 AC E 136 [.agg p.view,.agg [.i v,.i y],.ptr 0 0] ⟨2,[(0,.var [.mp 1]),(1,.map .bl (BA [] Xs) (List.replicate (BA [] Xs).length true))]⟩ (.Az []) ⟨2,[(0,.var [.mp 1]),(1,.map .bl (BA [] (Xs++Cw p.kind p.index y)) (List.replicate (BA [] (Xs++Cw p.kind p.index y)).length true))]⟩:=by
 rw[Zip];generalize BA [] Xs=ks;unfold Cw;by_cases h0:p.kind=1;case neg=>
  rw[if_neg (fun h=>h0 h.1)];refine M.F Tryz.func136 ?_;(repeat' first|refine M.gw ?_|refine M.cs ?_ ?_<;>intro h|fail);all_goals first|exfalso;simp_all;done|exact M.n2 [some 0,some 1] (h6:=(by(repeat'(first|exact trivial|refine And.intro ?_ ?_|refine⟨_,U,_,U,_,U,?_⟩|exact An.refl _|refine⟨_,U,_,_,U,?_,?_⟩|(simp[Ao.Ax,JJ];done)));done)) (h8:=(by simp[zj,V.wk,V.Ap,za,Ty.view,Tm.view,JJ]))
 have hp:=hp h0;have hs:=Yco ks (p.index-y);by_cases h1:p.kind=1/\p.index>=y
 ·rw[if_pos h1,Qp];rw[if_pos (by omega)] at hs;refine M.F Tryz.func136 ?_;(repeat' first|refine M.gw ?_|refine M.cb (hs) [1] 0 ?_|refine M.cs ?_ ?_<;>intro h|fail);all_goals first|exfalso;simp_all;done|exact M.n2 [some 0,some 1] (h8:=(by simp[zj,V.wk,V.Ap,za,Ty.view,Tm.view,hs]))
 ·rw[if_neg h1,JJ];rw[if_neg (by omega)] at hs;refine M.F Tryz.func136 ?_;(repeat' first|refine M.gw ?_|refine M.cb (hs) [1] 0 ?_|refine M.cs ?_ ?_<;>intro h|fail);all_goals first|exfalso;simp_all;done|exact M.n2 [some 0,some 1] (h8:=(by simp[zj,V.wk,V.Ap,za,Ty.view,Tm.view,hs]))
theorem Yj5:∀(n:Nat) (p:Pf) (v y:Int) (Xs:List Int),p.full<=n->n<10000000000->(0<=v/\v+2*n<=50000000000)->(0<=y/\y+2*n<=50000000000)->p.nd->p.hx 9223372036854775808->
 AC E 84 [.agg p.view,.agg [.i v,.i y],.agg [.nilf,.nilf,.fn (.func 136) [] [.ptr 0 0]]] ⟨2,[(0,.var [.mp 1]),(1,.map .bl (BA [] (Xs)) (List.replicate (BA [] (Xs)).length true))]⟩ (.Az []) ⟨2,[(0,.var [.mp 1]),(1,.map .bl (BA [] ((Xs++p.B3 (Cw) y))) (List.replicate (BA [] ((Xs++p.B3 (Cw) y))).length true))]⟩:=by
 intro n;induction n with
 |zero=>intro p v y Xs hz;have:=p.Aa;omega
 |succ n ih=>
 intro p v y Xs hz hn hv hh hs hhx;obtain⟨i1,i2⟩:=(Pf.A8 _ p).1 hhx;have hka:0<p.args.length->p.kind≠1:=fun h0 e=>by
  obtain⟨⟨nd0,a1,a2⟩,_⟩:=(Pf.Bz p).1 hs;rw[e] at a1;simp[BO] at a1;rw[<-a1] at a2;simp at a2;simp[a2] at h0
 have hre:=p.Bu (Cw) y;have hsz':=p.Ag;have hlen:=zd Pf.full Pf.Aa p.args;have hlen1:=zd Fm.full Fm.Aa p.Ac;have hlen2:=zd Tm.full Tm.Aa p.terms;have hru:=vd p.kind;obtain⟨⟨nd,n1,n4⟩,hpf⟩:=(Pf.Bz p).1 hs;have hal:p.args.length<=2:=by
  rw[n4];unfold BO at n1
  repeat(split at n1;· cases n1;decide)
  cases n1
 have hpl:=fun(m:Nat) (hm:m<=1000000)=>yx p.kind v y nd n1 m hm (by omega) (by omega);have e2:CR p.kind=[.bool nd.index,.bool nd.typ,.i nd.terms,.i nd.Ac,.i nd.args,.i (AD p.kind),.i (As p.kind),.i (At p.kind)]:=by unfold CR;rw[n1]
 have b1:0<=As p.kind/\As p.kind<=2:=by unfold As;split<;>(try split)<;>omega
 have b2:0<=At p.kind/\At p.kind<=1:=by unfold At;split<;>omega
 have b3:0<=AD p.kind/\AD p.kind<=1:=by unfold AD;split<;>omega
 rw[n1] at hru;simp only[Option.isSome_some] at hru;rw[e2] at hru;simp only[e2] at hpl;have hlf:=Px Xs p v y i1 (by omega);have hno:nd.index=false->(Cw) p.kind p.index y=[]:=fun hi=>by
  have k1:p.kind≠1:=fun e=>by rw[e] at n1;simp[BO] at n1;rw[<-n1] at hi;cases hi
  have k2:p.kind≠2:=fun e=>by rw[e] at n1;simp[BO] at n1;rw[<-n1] at hi;cases hi
  simp[C5,Cq,Cw,O4,k1,k2]
 obtain⟨X1,hX1⟩:∃X1,X1=Xs++(Cw) p.kind p.index y:=⟨_,rfl⟩;obtain⟨x3,x4,x5,ix,x2⟩:=nd;simp only at n4 hru hpl hno;cases ix
 ·have hX:X1=Xs:=by rw[hX1,hno rfl,List.append_nil]
  refine M.F Tryz.func84 ?_;(repeat' first|refine M.gw ?_|refine M.c2 (hru) ?_|fail);refine AW.range p.terms.length (fun m=>True)
   (fun m=>([(3,.ptr 2 0),(4,.ptr 3 0),(5,.ptr 4 0),(6,.ptr 5 0),(33,.s .tm p.terms),(34,.i p.terms.length),(35,.i m)],⟨6,[(0,.var [.mp 1]),(1,.map .bl (BA [] (X1)) (List.replicate (BA [] (X1)).length true)),(2,.var p.view),(3,.var [.i v,.i y]),(4,.var [.nilf,.nilf,.fn (.func 136) [] [.ptr 0 0]]),(5,.var [.bool false,.bool x2,.i x3,.i x4,.i x5,.i (AD p.kind),.i (As p.kind),.i (At p.kind)])]⟩))
   (by omega) (fun m=>rfl) (fun m=>rfl) U trivial (M.W [some 0,some 1,some 2,some 3,some 4,some 5] (he:=(by(repeat'(first|exact trivial|refine And.intro ?_ ?_|refine⟨_,U,_,U,_,U,?_⟩|exact An.refl _|refine⟨_,U,_,_,U,?_,?_⟩|(simp[Ao.Ax,hX];done)));done))) ?_ ?_
  ·intro m hm _;(repeat' first|refine M.gw ?_|fail);exact⟨rfl,trivial,(M.W [some 0,some 1,some 2,some 3,some 4,some 5])⟩
  ·intro _;skip;(repeat' first|refine M.gw ?_|fail);refine AW.range p.Ac.length (fun m=>True)
    (fun m=>([(3,.ptr 2 0),(4,.ptr 3 0),(5,.ptr 4 0),(6,.ptr 5 0),(50,.s .fm p.Ac),(51,.i p.Ac.length),(52,.i m)],⟨6,[(0,.var [.mp 1]),(1,.map .bl (BA [] (X1)) (List.replicate (BA [] (X1)).length true)),(2,.var p.view),(3,.var [.i v,.i y]),(4,.var [.nilf,.nilf,.fn (.func 136) [] [.ptr 0 0]]),(5,.var [.bool false,.bool x2,.i x3,.i x4,.i x5,.i (AD p.kind),.i (As p.kind),.i (At p.kind)])]⟩))
    (by omega) (fun m=>rfl) (fun m=>rfl) rfl trivial (M.W [some 0,some 1,some 2,some 3,some 4,some 5]) ?_ ?_
   ·intro m hm _;(repeat' first|refine M.gw ?_|fail);exact⟨rfl,trivial,(M.W [some 0,some 1,some 2,some 3,some 4,some 5])⟩
   ·intro _;skip;(repeat' first|refine M.gw ?_|fail);refine AW.range p.args.length (fun m=>True)
     (fun m=>([(3,.ptr 2 0),(4,.ptr 3 0),(5,.ptr 4 0),(6,.ptr 5 0),(70,.s .pf p.args),(71,.i p.args.length),(72,.i m)],⟨6,[(0,.var [.mp 1]),(1,.map .bl (BA [] ((X1++((Pf.AM (Cw) y (At p.kind) p.args).take m).flatten))) (List.replicate (BA [] ((X1++((Pf.AM (Cw) y (At p.kind) p.args).take m).flatten))).length true)),(2,.var p.view),(3,.var [.i v,.i y]),(4,.var [.nilf,.nilf,.fn (.func 136) [] [.ptr 0 0]]),(5,.var [.bool false,.bool x2,.i x3,.i x4,.i x5,.i (AD p.kind),.i (As p.kind),.i (At p.kind)])]⟩))
     (by omega) (fun m=>rfl) (fun m=>rfl) U trivial (M.W [some 0,some 1,some 2,some 3,some 4,some 5] (he:=(by(repeat'(first|exact trivial|refine And.intro ?_ ?_|refine⟨_,U,_,U,_,U,?_⟩|exact An.refl _|refine⟨_,U,_,_,U,?_,?_⟩|(simp[Ao.Ax,List.take_zero,List.flatten_nil,List.append_nil];done)));done))) ?_ ?_
    ·intro m hm _;have hs2:=zc Pf.full (List.getElem_mem hm);have hb:=hpl m (by omega);have hc:=ih p.args[m] (if m+1=p.args.length then v+As p.kind else v) (if m+1=p.args.length then y+At p.kind else y) (X1++((Pf.AM (Cw) y (At p.kind) p.args).take m).flatten) (by omega) (by omega) (by split<;>omega) (by split<;>omega) (hpf _ (List.getElem_mem hm)) (i2 (hka (by omega)) _ (List.getElem_mem hm));have e3:(X1++((Pf.AM (Cw) y (At p.kind) p.args).take m).flatten)++p.args[m].B3 (Cw) (if m+1=p.args.length then y+At p.kind else y)=(X1++((Pf.AM (Cw) y (At p.kind) p.args).take (m+1)).flatten):=by rw[List.append_assoc,u4 (Cw) hm]
     rw[e3] at hc;have ev:(if(m:Int)=(x5:Int)-1 then y+At p.kind else y)=(if m+1=p.args.length then y+At p.kind else y):=by
      by_cases hx:m+1=p.args.length
      ·rw[if_pos hx,if_pos (by omega)]
      ·rw[if_neg hx,if_neg (by omega)]
     have ev2:(if(m:Int)=(x5:Int)-1 then v+As p.kind else v)=(if m+1=p.args.length then v+As p.kind else v):=by
      by_cases hx:m+1=p.args.length
      ·rw[if_pos hx,if_pos (by omega)]
      ·rw[if_neg hx,if_neg (by omega)]
     rw[ev,ev2] at hb;(repeat' first|refine M.gw ?_|refine M.c2 (hb) ?_|refine M.cv (hc) [0,1] 0 ?_|fail);exact⟨rfl,trivial,(M.W [some 0,some 1,some 2,some 3,some 4,some 5])⟩
    ·intro _;rw[hre];simp only[Ik];skip
     (exact M.n2 [some 0,some 1] (h6:=(by(repeat'(first|exact trivial|refine And.intro ?_ ?_|refine⟨_,U,_,U,_,U,?_⟩|exact An.refl _|refine⟨_,U,_,_,U,?_,?_⟩|(simp[Ao.Ax,hX1,List.append_assoc];done)));done)) (h8:=(by simp[zj,V.wk,V.Ap,za,Ty.view,Tm.view,hX1,List.append_assoc])))
 ·refine M.F Tryz.func84 ?_;(repeat' first|refine M.gw ?_|refine M.c2 (hru) ?_|refine M.cv (hlf) [0,1] 0 ?_|fail);refine AW.range p.terms.length (fun m=>True)
   (fun m=>([(3,.ptr 2 0),(4,.ptr 3 0),(5,.ptr 4 0),(6,.ptr 5 0),(33,.s .tm p.terms),(34,.i p.terms.length),(35,.i m)],⟨6,[(0,.var [.mp 1]),(1,.map .bl (BA [] (X1)) (List.replicate (BA [] (X1)).length true)),(2,.var p.view),(3,.var [.i v,.i y]),(4,.var [.nilf,.nilf,.fn (.func 136) [] [.ptr 0 0]]),(5,.var [.bool true,.bool x2,.i x3,.i x4,.i x5,.i (AD p.kind),.i (As p.kind),.i (At p.kind)])]⟩))
   (by omega) (fun m=>rfl) (fun m=>rfl) U trivial (M.W [some 0,some 1,some 2,some 3,some 4,some 5] (he:=(by(repeat'(first|exact trivial|refine And.intro ?_ ?_|refine⟨_,U,_,U,_,U,?_⟩|exact An.refl _|refine⟨_,U,_,_,U,?_,?_⟩|(simp[Ao.Ax,hX1];done)));done))) ?_ ?_
  ·intro m hm _;(repeat' first|refine M.gw ?_|fail);exact⟨rfl,trivial,(M.W [some 0,some 1,some 2,some 3,some 4,some 5])⟩
  ·intro _;skip;(repeat' first|refine M.gw ?_|fail);refine AW.range p.Ac.length (fun m=>True)
    (fun m=>([(3,.ptr 2 0),(4,.ptr 3 0),(5,.ptr 4 0),(6,.ptr 5 0),(50,.s .fm p.Ac),(51,.i p.Ac.length),(52,.i m)],⟨6,[(0,.var [.mp 1]),(1,.map .bl (BA [] (X1)) (List.replicate (BA [] (X1)).length true)),(2,.var p.view),(3,.var [.i v,.i y]),(4,.var [.nilf,.nilf,.fn (.func 136) [] [.ptr 0 0]]),(5,.var [.bool true,.bool x2,.i x3,.i x4,.i x5,.i (AD p.kind),.i (As p.kind),.i (At p.kind)])]⟩))
    (by omega) (fun m=>rfl) (fun m=>rfl) rfl trivial (M.W [some 0,some 1,some 2,some 3,some 4,some 5]) ?_ ?_
   ·intro m hm _;(repeat' first|refine M.gw ?_|fail);exact⟨rfl,trivial,(M.W [some 0,some 1,some 2,some 3,some 4,some 5])⟩
   ·intro _;skip;(repeat' first|refine M.gw ?_|fail);refine AW.range p.args.length (fun m=>True)
     (fun m=>([(3,.ptr 2 0),(4,.ptr 3 0),(5,.ptr 4 0),(6,.ptr 5 0),(70,.s .pf p.args),(71,.i p.args.length),(72,.i m)],⟨6,[(0,.var [.mp 1]),(1,.map .bl (BA [] ((X1++((Pf.AM (Cw) y (At p.kind) p.args).take m).flatten))) (List.replicate (BA [] ((X1++((Pf.AM (Cw) y (At p.kind) p.args).take m).flatten))).length true)),(2,.var p.view),(3,.var [.i v,.i y]),(4,.var [.nilf,.nilf,.fn (.func 136) [] [.ptr 0 0]]),(5,.var [.bool true,.bool x2,.i x3,.i x4,.i x5,.i (AD p.kind),.i (As p.kind),.i (At p.kind)])]⟩))
     (by omega) (fun m=>rfl) (fun m=>rfl) U trivial (M.W [some 0,some 1,some 2,some 3,some 4,some 5] (he:=(by(repeat'(first|exact trivial|refine And.intro ?_ ?_|refine⟨_,U,_,U,_,U,?_⟩|exact An.refl _|refine⟨_,U,_,_,U,?_,?_⟩|(simp[Ao.Ax,List.take_zero,List.flatten_nil,List.append_nil];done)));done))) ?_ ?_
    ·intro m hm _;have hs2:=zc Pf.full (List.getElem_mem hm);have hb:=hpl m (by omega);have hc:=ih p.args[m] (if m+1=p.args.length then v+As p.kind else v) (if m+1=p.args.length then y+At p.kind else y) (X1++((Pf.AM (Cw) y (At p.kind) p.args).take m).flatten) (by omega) (by omega) (by split<;>omega) (by split<;>omega) (hpf _ (List.getElem_mem hm)) (i2 (hka (by omega)) _ (List.getElem_mem hm));have e3:(X1++((Pf.AM (Cw) y (At p.kind) p.args).take m).flatten)++p.args[m].B3 (Cw) (if m+1=p.args.length then y+At p.kind else y)=(X1++((Pf.AM (Cw) y (At p.kind) p.args).take (m+1)).flatten):=by rw[List.append_assoc,u4 (Cw) hm]
     rw[e3] at hc;have ev:(if(m:Int)=(x5:Int)-1 then y+At p.kind else y)=(if m+1=p.args.length then y+At p.kind else y):=by
      by_cases hx:m+1=p.args.length
      ·rw[if_pos hx,if_pos (by omega)]
      ·rw[if_neg hx,if_neg (by omega)]
     have ev2:(if(m:Int)=(x5:Int)-1 then v+As p.kind else v)=(if m+1=p.args.length then v+As p.kind else v):=by
      by_cases hx:m+1=p.args.length
      ·rw[if_pos hx,if_pos (by omega)]
      ·rw[if_neg hx,if_neg (by omega)]
     rw[ev,ev2] at hb;(repeat' first|refine M.gw ?_|refine M.c2 (hb) ?_|refine M.cv (hc) [0,1] 0 ?_|fail);exact⟨rfl,trivial,(M.W [some 0,some 1,some 2,some 3,some 4,some 5])⟩
    ·intro _;rw[hre];simp only[Ik];skip
     (exact M.n2 [some 0,some 1] (h6:=(by(repeat'(first|exact trivial|refine And.intro ?_ ?_|refine⟨_,U,_,U,_,U,?_⟩|exact An.refl _|refine⟨_,U,_,_,U,?_,?_⟩|(simp[Ao.Ax,hX1,List.append_assoc];done)));done)) (h8:=(by simp[zj,V.wk,V.Ap,za,Ty.view,Tm.view,hX1,List.append_assoc])))
theorem Zos(ks:List Int)(hnd:ks.Nodup)(hwf:∀x∈ks,(Lit.int .i64 x).wf=true)(hmax:ks.length<549755813888):AC E 190 [.mp 0] ⟨1,[(0,.map .bl ks (List.replicate ks.length true))]⟩ (.s .int (yj ks)) ⟨1,[(0,.map .bl ks (List.replicate ks.length true))]⟩:=by
 have hk:AC E 232 [.mp 0] ⟨1,[(0,.map .bl ks (List.replicate ks.length true))]⟩ (.fn (.func 255) [] [.ptr 1 0]) ⟨2,[(1,.var [.mp 0]),(0,.map .bl ks (List.replicate ks.length true))]⟩:=Zt1 (by simp);have hs:AC E 231 [.fn (.func 255) [] [.ptr 0 0]] ⟨2,[(0,.var [.mp 1]),(1,.map .bl ks (List.replicate ks.length true))]⟩ (.s .int (yj ks)) ⟨2,[(0,.var [.mp 1]),(1,.map .bl ks (List.replicate ks.length true))]⟩:=Zw8 (c:= .bl) rfl rfl hnd hwf hmax;refine M.F Tryz.func190 ?_;(repeat' first|refine M.gw ?_|refine M.cb (hk) [0] 1 ?_|refine M.cb (hs) [1,0] 0 ?_|fail)
 (exact M.n2 [some 0] (h8:=(by simp[zj,V.wk,V.Ap,za,Ty.view,Tm.view,hs])))
theorem Yls(ks:List Int):AC E 135 [.mp 0] ⟨1,[(0,.map .bl ks (List.replicate ks.length true))]⟩ (.agg [.nilf,.nilf,.fn (.func 136) [] [.ptr 1 0]]) ⟨2,[(0,.map .bl ks (List.replicate ks.length true)),(1,.var [.mp 0])]⟩:=by
 refine M.F Tryz.func135 ?_;(repeat' first|refine M.gw ?_|fail);refine K.rt [some 0,some 1] rfl rfl rfl rfl rfl ?_ rfl ?_
 ·(repeat'(first|exact trivial|refine And.intro ?_ ?_|refine⟨_,U,_,U,_,U,?_⟩|exact Bh.refl _|exact An.refl _|refine⟨_,U,_,_,U,?_,?_⟩|with_reducible exact rfl|exact Eq.refl true|rfl))
 ·first
   |exact An.refl _
   |(refine An.of_eq ?_;simp[zj];rfl)
theorem VA(p:Pf)(hp:p.full<274877906944)(hx:p.err=0->p.hx 9223372036854775808):PC E 76 [.agg p.view] (.Az [.s .int (if p.err=0 then Hs p else []),.i p.err]):=by
 have h1:=vj p hp;have hcol:PC E 134 [.agg p.view,.fn (.func 135) [] []] (.Az [.s .int (if p.err=0 then Hs p else []),.i p.err]):=by
  by_cases he:p.err=0;case neg=>
   rw[if_neg he];refine M.F Tryz.func134 ?_;(repeat' first|refine M.go ?_|refine M.c2 (h1) ?_|refine M.z1 4 ?_|refine M.cs ?_ ?_<;>intro h|refine M.gk ?_|fail);all_goals first
    |rfl
    |(exfalso;simp at h;exact he h)
    |trace_state
  obtain⟨g1,g2,g3,g4,g5,g6⟩:=LA he;rw[if_pos he];rw[he] at h1 ⊢;have hv:=Yls [];have hc:=Yj5 _ p 0 0 [] (Nat.le_refl _) (by omega) (by omega) (by omega) g4 (hx he);rw[List.nil_append] at hc;obtain⟨hwf,hlen⟩:=Yjm p g1 (by omega) (hx he);have hnd:(BA [] (p.B3 Cw 0)).Nodup:=JG List.nodup_nil;have hs:=Zos (BA [] (p.B3 Cw 0)) hnd hwf hlen;have e:Hs p=yj (BA [] (p.B3 Cw 0)):=by unfold Hs;rw[Yh0]
  rw[e];have e0:BA [] []=[]:=rfl;rw[e0] at hc;simp only[List.length_nil,List.replicate_zero] at hc hv;generalize BA [] (p.B3 Cw 0)=ks at*;refine M.F Tryz.func134 ?_;(repeat' first|refine M.gw ?_|refine M.c2 (h1) ?_|refine M.cv (hv) [1] 1 ?_|refine M.cv (hc) [2,1] 0 ?_|refine M.cb (hs) [1] 0 ?_|fail);all_goals first
   |rfl
   |trace_state
 generalize (if p.err=0 then Hs p else [])=R at*;refine M.F Tryz.func76 ?_;(repeat' first|refine M.gw ?_|refine M.c2 (hcol) ?_|fail)
 rfl
theorem Zx4:PC E 77 [] (.agg CG.view):=by
 have h1:=CJ 4 [] (by simp);have h2:=CJ 5 [.mk 4 0 (.mk 0 []) []] (by simp[Tm.full,Tm.Au,Ty.size,Ty.sizes]);have h3:=GO (.mk 4 0 (.mk 0 []) []) (.mk 5 0 (.mk 0 []) [.mk 4 0 (.mk 0 []) []]) (by simp[Tm.full,Tm.Au,Ty.size,Ty.sizes]) (by simp[Tm.full,Tm.Au,Ty.size,Ty.sizes]);refine M.F Tryz.func77 ?_;(repeat' first|refine M.gw ?_|refine M.c2 (h1) ?_|refine M.c2 (h2) ?_|refine M.c2 (h3) ?_|fail)
 rfl
theorem XA(i:Int)(h:0<=i/\i<9223372036854775808):(Hg i).hx 9223372036854775808:=(Pf.A8 _ _).2 ⟨fun h=>absurd h (show ¬(6:Int)=1 by decide),fun _ x hx=>by
 obtain rfl:x=xo i:=List.mem_singleton.1 hx;exact OV h⟩
theorem Yb9:PC E 26 [] (.bool true):=by
 have h0:=Vu 0;have h3:=Vu 3;have i0:=Mn CG (xo 0) (by decide) (by decide);have i3:=Mn CG (xo 3) (by decide) (by decide);have p0:=VA (Hg 0) (by decide) (fun _=>XA _ (by omega));have p3:=VA (Hg 3) (by decide) (fun _=>XA _ (by omega));rw[show(if(Hg 0).err=0 then Hs (Hg 0) else [])=[] by decide+kernel,show(Hg 0).err=0 by decide+kernel] at p0;rw[show(if(Hg 3).err=0 then Hs (Hg 3) else [])=[2] by decide+kernel,show(Hg 3).err=0 by decide+kernel] at p3;unfold Hg at p0 p3;refine M.F Tryz.func26 ?_;(repeat' first|refine M.gw ?_|refine M.c2 (Zx4) ?_|refine M.c2 (h0) ?_|refine M.c2 (h3) ?_|refine M.c2 (i0) ?_|refine M.c2 (i3) ?_|refine M.c2 (p0) ?_|refine M.c2 (p3) ?_|fail)
 rfl
theorem Pk(n:Nat)(hn:n<=5)(hn1:2<=n)(k:Int)(hk:k+2=n)(d:Dk)(g:List Ty)(s:Ty)(hd:d.ok)(hg:Al g)(hs:s.small)(hl:g.length<=16):∃(t:Tm) (d':Dk),d'.ok/\t.err=0/\t.near=true/\t.inf g=(s,0)/\
 AC E 29 [.ptr 0 0,.s .ty g,.agg s.view,.i k] ⟨1,[(0,.var d.cells)]⟩ (.agg t.view) ⟨1,[(0,.var d'.cells)]⟩:=by
 have hm:=Dk.CF n d g s hg hs (by omega) (by omega);exact⟨_,_,Dk.CA n d g s hd,hm.err hg hs (by omega),hm.near hg hs hn (by omega),hm.inf hg hs,Ij n (by omega) d g s k (by omega) hd hg hs (by omega) (by omega) (by omega)⟩
theorem SG(p:Pf)(hp:p.full<=400000000):PC E 27 [.agg p.view,.i 0,.i 1] (.Az [.agg (wo p 0 1).view,.i (v4 p 0 1)]):=Yey p 0 1 (by omega)
theorem Yh2(p:Pf)(a:Int)(t:Tm)(hp:p.full<=400000000)(ht:t.full<274877906944):PC E 28 [.agg p.view,.i a,.agg t.view] (.Az [.agg (Co p a t).view,.i (x7 p a t)]):=Yv p a t (by omega) ht
theorem Vs(p q:Pf)(hp:p.full<=400000000)(hq:q.full<=400000000):PC E 31 [.agg p.view,.i 0,.agg q.view] (.Az [.agg (vq p 0 q).view,.i (va p 0 q)]):=Xx p 0 q (by omega) (by omega)
theorem Zh4(l:List Int):PC E 6 [.s .int l] (.bool true):=by
 have hsane:=Yb9;have hfew:=SU l;by_cases hl:l.length<=500;case neg=>
  rw[decide_eq_false hl] at hfew;refine M.F Tryz.func6 ?_;(repeat' first|refine M.gw ?_|refine M.c2 (hsane) ?_|refine M.c2 (hfew) ?_|fail)
  rfl
 rw[decide_eq_true hl] at hfew;have hnew:=QX l;have hd:(Dk.mk l 0).ok:=⟨Nat.zero_le _,by simp only;omega⟩;obtain⟨d,hde⟩:∃d,d=Dk.mk l 0:=⟨_,rfl⟩;rw[<-hde] at hnew hd;have hlm:=O6 d hd;have hsq:=Sb d.lm.2 (Dk.Ej hd);have hd2:=Dk.Fq (Dk.Ej hd);have hc:=Sn d;have hg:=d.lm.2.BW;have hgl:=d.lm.2.ED;generalize d.lm.2.GF=d2 at*;generalize d.lm.2.FO=hyps at*;generalize d.lm.2.ctx.1=tys at*;generalize d.lm.1=lems at*;generalize d.lm.2=d1 at*;obtain⟨p,d3,hp,ok3,hA⟩:=Ov 3 (by omega) lems tys hyps d2 3 rfl hd2 hc hg;obtain⟨r,d4,hr,ok4,hB⟩:=Ov 2 (by omega) lems tys hyps d3 2 rfl ok3 hc hg;obtain⟨s,d5,ok5,hs,hT⟩:=Kh d4 ok4;obtain⟨t,d6,ok6,te,tn,ti,hU⟩:=Pk 4 (by omega) (by omega) 2 (by omega) d5 tys s ok5 hg hs (by omega);have b3:C1 3=108000000:=by decide
 have b2:C1 2=36000000:=by decide
 have ft:=z9 te;have fp:=hp.full;have fr:=hr.full;have hC:=Ybx hp hr (by omega) (by omega) te tn;have c1:=SG p (by omega);have c2:=Yh2 (wo p 0 1) 0 t (by have:=hC.fx;omega) (by omega);have c3:=Vs p r (by omega) (by omega);have c4:=SG (vq p 0 r) (by have:=hC.fa;omega);have c5:=SG r (by omega);have c6:=Vs (wo p 0 1) (wo r 0 1) (by have:=hC.fx;omega) (by have:=hC.fs;omega);generalize x7 (wo p 0 1) 0 t=f at*;generalize Co (wo p 0 1) 0 t=Y at*;generalize va (wo p 0 1) 0 (wo r 0 1)=j at*;generalize vq (wo p 0 1) 0 (wo r 0 1)=B at*;generalize v4 (vq p 0 r) 0 1=h at*;generalize wo (vq p 0 r) 0 1=A' at*;generalize va p 0 r=g at*;generalize vq p 0 r=A at*;generalize v4 p 0 1=e at*;generalize wo p 0 1=X at*;generalize v4 r 0 1=i at*;generalize wo r 0 1=S at*;obtain⟨hres,fx,fa,fs,fy,fa',fb⟩:=hC;by_cases hg4:g=4
 ·subst hg4;clear hres;refine M.F Tryz.func6 ?_;(repeat' first|refine M.gw ?_|refine M.c2 (hsane) ?_|refine M.c2 (hfew) ?_|refine M.cb (hnew) [] 1 ?_|refine M.cb (hlm) [0] 0 ?_|refine M.cb (hsq) [0] 0 ?_|refine M.cb (hA) [0] 0 ?_|refine M.cb (hB) [0] 0 ?_|refine M.c2 (c1) ?_|refine M.cb (hT) [0] 0 ?_|refine M.cb (hU) [0] 0 ?_|refine M.c2 (c2) ?_|refine M.c2 (c3) ?_|refine M.c2 (c4) ?_|refine M.c2 (c5) ?_|refine M.c2 (c6) ?_|fail)
  rfl
 by_cases hj4:j=4
 ·subst hj4;clear hres;refine M.F Tryz.func6 ?_;(repeat' first|refine M.gw ?_|refine M.c2 (hsane) ?_|refine M.c2 (hfew) ?_|refine M.cb (hnew) [] 1 ?_|refine M.cb (hlm) [0] 0 ?_|refine M.cb (hsq) [0] 0 ?_|refine M.cb (hA) [0] 0 ?_|refine M.cb (hB) [0] 0 ?_|refine M.c2 (c1) ?_|refine M.cb (hT) [0] 0 ?_|refine M.cb (hU) [0] 0 ?_|refine M.c2 (c2) ?_|refine M.c2 (c3) ?_|refine M.c2 (c4) ?_|refine M.c2 (c5) ?_|refine M.c2 (c6) ?_|refine M.gs ?_ ?_<;>intro h|fail);all_goals first
   |rfl
   |(exfalso;simp at h;exact hg4 h)
   |trace_state
 obtain⟨rfl,rfl,rfl,rfl,rfl,rfl,rfl,rfl⟩:=hres.resolve_left (by omega);have s1:=K2 _ Y (Nat.le_refl _) (by omega);have s2:=K2 _ A' (Nat.le_refl _) (by omega);refine M.F Tryz.func6 ?_;(repeat' first|refine M.gw ?_|refine M.c2 (hsane) ?_|refine M.c2 (hfew) ?_|refine M.cb (hnew) [] 1 ?_|refine M.cb (hlm) [0] 0 ?_|refine M.cb (hsq) [0] 0 ?_|refine M.cb (hA) [0] 0 ?_|refine M.cb (hB) [0] 0 ?_|refine M.c2 (c1) ?_|refine M.cb (hT) [0] 0 ?_|refine M.cb (hU) [0] 0 ?_|refine M.c2 (c2) ?_|refine M.c2 (c3) ?_|refine M.c2 (c4) ?_|refine M.c2 (c5) ?_|refine M.c2 (c6) ?_|refine M.c2 (s1) ?_|refine M.c2 (s2) ?_|fail)
 rfl
end Go.Ab
