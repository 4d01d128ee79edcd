/- A part of the proofs of this seat. No conditions. -/
import Derived.Test.YtpnbmjgblakifaaGreatDoorBCqST1
import Derived.Test.YtpnbmjgblakifaaGreatDoorST6
namespace Go.Ab
open Go Go.Proofs
set_option maxRecDepth 100000
set_option maxHeartbeats 4000000
set_option linter.all false
theorem WL(p:Pf)(hp:p.full<900000000):PC E 22 [.agg p.view] (.Az [.agg (Ir p).1.view,.bool (Ir p).2.1,.i (Ir p).2.2]):=by
 have h1:=vj p (by omega);unfold Ir;by_cases he:p.err=0;case neg=>
  rw[if_pos he];refine M.F Tryz.func22 ?_;(repeat' first|refine M.gw ?_|refine M.c2 (h1) ?_|refine M.cs ?_ ?_<;>intro h|fail);all_goals first
   |rfl
   |(exfalso;simp at h;exact he h)
   |trace_state
 rw[if_neg (by simp[he])];have hs:=((Pf.Ae p).1 he).1;have h2:=Uq p (by omega) hs;have h3:=Xu p hp hs;have e3:= @u6 p;rw[he] at h1;by_cases hn:p.Ce=false
 ·rw[if_pos hn];rw[hn] at h2;refine M.F Tryz.func22 ?_;(repeat' first|refine M.gw ?_|refine M.c2 (h1) ?_|refine M.c2 (h2) ?_|fail)
  rfl
 rw[if_neg hn];rw[Bool.not_eq_false] at hn;rw[hn] at h2;by_cases hq:(yh p).2.2=0
 ·rw[if_neg (by simp[hq])];obtain⟨_,e1,_,e2⟩:=e3 hq;rw[<-e1] at e2;have h4:=WG (yh p).1 (by have:=ur e2;omega) ((Pf.Ae _).1 e2).1;generalize yh p=R at*;obtain⟨u,f,e⟩:=R;simp only at h3 h4 hq ⊢;subst hq;refine M.F Tryz.func22 ?_;(repeat' first|refine M.gw ?_|refine M.c2 (h1) ?_|refine M.c2 (h2) ?_|refine M.c2 (h3) ?_|refine M.c2 (h4) ?_|fail)
  rfl
 ·rw[if_pos hq];clear e3;generalize yh p=R at*;obtain⟨u,f,e⟩:=R;simp only at h3 hq ⊢;refine M.F Tryz.func22 ?_;(repeat' first|refine M.gw ?_|refine M.c2 (h1) ?_|refine M.c2 (h2) ?_|refine M.c2 (h3) ?_|refine M.cs ?_ ?_<;>intro h|fail);all_goals first
   |rfl
   |(exfalso;simp at h;exact hq h)
   |trace_state
theorem MK(p:Pf)(s:Int)(hp:p.full<900000000)(hsb: -9223372036854775808<=s/\s<=9223372036854775807):PC E 13 [.agg p.view,.i s] (.Az [.agg (y7 p s).1.view,.i (y7 p s).2.1,.i (y7 p s).2.2]):=by
 have h1:=vj p (by omega);unfold y7;by_cases he:p.err=0;case neg=>
  rw[if_pos he];refine M.F Tryz.func13 ?_;(repeat' first|refine M.go ?_|refine M.c2 (h1) ?_|refine M.z1 4 ?_|refine M.cs ?_ ?_<;>intro h|refine M.gk ?_|fail);all_goals first
   |rfl
   |(exfalso;simp at h;exact he h)
   |trace_state
 rw[if_neg (by simp[he])];have hs:=((Pf.Ae p).1 he).1;have h2:=Uq p (by omega) hs;rw[he] at h1;by_cases hb:s<0\/s>65536\/p.Ce=false
 ·rw[if_pos hb];by_cases b1:s<0
  ·refine M.F Tryz.func13 ?_;(repeat' first|refine M.gw ?_|refine M.c2 (h1) ?_|refine M.c2 (h2) ?_|refine M.gs ?_ ?_<;>intro h|refine M.cs ?_ ?_<;>intro h|fail);all_goals first
    |rfl
    |(exfalso;simp at h;omega)
    |(exfalso;simp only[decide_eq_false_iff_not,decide_eq_true_eq] at*;omega)
    |trace_state
  by_cases b2:s>65536
  ·refine M.F Tryz.func13 ?_;(repeat' first|refine M.gw ?_|refine M.c2 (h1) ?_|refine M.c2 (h2) ?_|refine M.gs ?_ ?_<;>intro h|refine M.cs ?_ ?_<;>intro h|fail);all_goals first
    |rfl
    |(exfalso;simp at h;omega)
    |(exfalso;simp only[decide_eq_false_iff_not,decide_eq_true_eq] at*;omega)
    |trace_state
  have b3:=(hb.resolve_left b1).resolve_left b2;rw[b3] at h2;refine M.F Tryz.func13 ?_;(repeat' first|refine M.gw ?_|refine M.c2 (h1) ?_|refine M.c2 (h2) ?_|refine M.gs ?_ ?_<;>intro h|fail);all_goals first
   |rfl
   |(exfalso;simp at h;omega)
   |(exfalso;simp only[decide_eq_false_iff_not,decide_eq_true_eq] at*;omega)
   |trace_state
 rw[if_neg hb];have b1:¬s<0:=fun h=>hb (.inl h);have b2:¬s>65536:=fun h=>hb (.inr (.inl h));have b3:p.Ce=true:=by cases e:p.Ce with|true=>rfl|false=>exact absurd (.inr (.inr e)) hb
 rw[b3] at h2;refine M.F Tryz.func13 ?_;(repeat' first|refine M.gw ?_|refine M.c2 (h1) ?_|refine M.c2 (h2) ?_|refine M.gs ?_ ?_<;>intro h|fail);all_goals first
  |(exfalso;simp only[decide_eq_false_iff_not,decide_eq_true_eq] at*;omega)
  |skip
 obtain⟨R,hR⟩:∃R,R=y4 s.toNat p 0:=⟨_,rfl⟩;rw[<-hR];refine AW.block (AW.loop (ι:={x:Pf×Nat // x.1.err=0/\(x.2:Int)<=s/\y4 (s-x.2).toNat x.1 x.2=R})
  (fun x=>([(1,.i s),(2,.ptr 0 0),(4,.ptr 1 0),(8,.i x.1.2)],⟨2,[(0,.var x.1.1.view),(1,.var [.i 0,.i 0,.i 0,.slice .nil (.t .ty []),.slice .nil (.t .tm []),.slice .nil (.t .fm []),.slice .nil (.t .pf [])])]⟩))
  (fun x=>(s-x.1.2).toNat) ⟨(p,0),he,by simp only;omega,by rw[hR];simp⟩ (M.W [some 0,some 1]) fun⟨⟨q,n⟩,qe,qn,qR⟩=> ?_)
 simp only at qe qn qR;have qf:=ur qe;have qs:=((Pf.Ae q).1 qe).1;have d1:=Ya1 _ q (Nat.le_refl _) (by omega) qs;have d2:=WG q (by omega) qs;have d3:=Xu q (by omega) qs;by_cases hns:(n:Int)=s
 ·rw[show(s-(n:Int)).toNat=0 by omega] at qR;unfold y4 at qR;cases hd:q.direct with
  |true=>
   rw[hd] at d1 qR;rw[if_pos rfl] at qR;have hnb:((n:Int)==s)=true:=by simp[hns]
   (repeat' first|refine M.gw ?_|refine M.c2 (d1) ?_|refine M.c2 (d2) ?_|refine M.zb ?_|refine M.cs ?_ ?_<;>intro h|fail);all_goals first|exfalso;simp at h;omega|(subst qR;rfl)
  |false=>
   rw[hd] at d1 qR;rw[if_neg (by simp)] at qR;(repeat' first|refine M.gw ?_|refine M.c2 (d1) ?_|refine M.zb ?_|refine M.cs ?_ ?_<;>intro h|fail);all_goals first|exfalso;simp at h;omega|(subst qR;rfl)
 ·obtain ⟨k,hk⟩:∃k,(s-(n:Int)).toNat=k+1:=⟨(s-(n:Int)).toNat-1,by omega⟩;rw[hk] at qR;unfold y4 at qR;have e3:= @u6 q;by_cases h0:(yh q).2.2=0;case neg=>
   rw[if_pos h0] at qR;clear e3;generalize yh q=T at*;obtain⟨u,f,e⟩:=T;simp only at d3 h0 qR;(repeat' first|refine M.go ?_|refine M.c2 (d3) ?_|refine M.z1 15 ?_|refine M.zb ?_|refine M.cs ?_ ?_<;>intro h|refine M.gk ?_|fail);all_goals first|exfalso;simp at h;omega|(subst qR;rfl)
  rw[if_neg (by simp[h0])] at qR;obtain⟨_,e4,_,e5⟩:=e3 h0;rw[<-e4] at e5;generalize yh q=T at*;obtain⟨u,f,e⟩:=T;simp only at d3 h0 qR e5;subst h0;cases f with
  |false=>
   rw[if_pos rfl] at qR;(repeat' first|refine M.gw ?_|refine M.c2 (d3) ?_|refine M.c2 (d2) ?_|refine M.zb ?_|refine M.cs ?_ ?_<;>intro h|fail);all_goals first|exfalso;simp at h;omega|(subst qR;rfl)
  |true=>
   rw[if_neg (by simp)] at qR;(repeat' first|refine M.gw ?_|refine M.c2 (d3) ?_|refine M.zb ?_|refine M.cs ?_ ?_<;>intro h|fail);all_goals first
    |(exfalso;simp at h;omega)
    |skip
   have hw:IntKind.i64.wrap ((n:Int)+1)=((n+1:Nat):Int):=by rw[IntWalk.i64_in _ (by omega)];omega
   refine⟨⟨(u,n+1),e5,by simp only;omega,?_⟩,?_,?_⟩
   ·simp only;rw[show(s-((n+1:Nat):Int)).toNat=k by omega,show((n+1:Nat):Int)=(n:Int)+1 by omega];exact qR
   ·simp only;omega
   ·simp only[hw];exact(M.W [some 0,some 1])
def Hf:Pf:= .mk 18 0 (.mk 0 []) [xn 0] [] []
def N6:Pf:= .mk 18 0 (.mk 0 []) [xn 1] [] []
def G6:Pf:= .mk 4 0 (.mk 0 []) [] [] [.mk 3 0 (.mk 0 []) [] [] [Hf,N6]]
theorem Yba:Ir G6=(Hf,true,0):=by
 have r:vm G6=true:=by decide+kernel
 have c:z7 G6=(Hf,0):=by unfold z7;rw[show yp G6=(4,3) from rfl];rfl
 have n:G6.nx=(Hf,true,0):=by rw[Pf.CX,if_pos r,c]
 have a:Hf.err=0:=by decide+kernel
 have d:G6.err=0:=by decide+kernel
 have w:G6.Ce=true:=by decide+kernel
 have s:yh G6=(Hf,true,0):=by unfold yh;rw[n,if_neg (by simp[a])]
 unfold Ir;rw[if_neg (by simp[d]),if_neg (by simp[w]),s]
 rfl
theorem Tz:PC E 7 [] (.bool true):=by
 have n0:=GP 0;have n1:=GP 1;have a0:=x8 (xn 0) (by decide);have a1:=x8 (xn 1) (by decide);have b1:=w8 3 [Hf,N6] (by simp) (by intro x hx;simp only[List.mem_cons,List.not_mem_nil,or_false] at hx;rcases hx with rfl|rfl<;>decide);have b2:=w8 4 [.mk 3 0 (.mk 0 []) [] [] [Hf,N6]] (by simp) (by intro x hx;simp only[List.mem_cons,List.not_mem_nil,or_false] at hx;subst hx;decide);have c1:=WL G6 (by decide);rw[Yba] at c1;have s1:=K2 _ Hf (Nat.le_refl _) (by decide);unfold G6 at c1;unfold Hf N6 at*;generalize xn 0=N0 at*;generalize xn 1=N1 at*;refine M.F Tryz.func7 ?_;(repeat' first|refine M.gw ?_|refine M.c2 (n0) ?_|refine M.c2 (n1) ?_|refine M.c2 (a0) ?_|refine M.c2 (a1) ?_|refine M.c2 (b1) ?_|refine M.c2 (b2) ?_|refine M.c2 (c1) ?_|refine M.c2 (s1) ?_|fail)
 rfl
theorem Ylj(n:Nat)(hn:n<=4)(lems:List Fm)(tys:List Ty)(hyps:List Fm)(hc:(Ck.mk lems tys hyps).ok)(hs:Al tys)(d:Dk)(hd:d.ok):
 ∃(pf:Nat->Pf) (dk:Nat->Dk) (xf:Nat->Fm) (us:Nat->List Int) (er:Nat->Int),dk 0=d/\∀m,(dk m).ok/\Made (C1 n) (pf m)/\(er m=0->(xf m).err=0/\(xf m).Bl tys)/\
  AC E 19 [.ptr 0 0,.s .fm lems,.agg [.s .ty tys,.s .fm hyps],.i n] ⟨1,[(0,.var (dk m).cells)]⟩ (.agg (pf m).view) ⟨1,[(0,.var (dk (m+1)).cells)]⟩/\
  PC E 58 [.s .fm lems,.agg [.s .ty tys,.s .fm hyps],.agg (pf m).view] (DG (xf m) (us m) (er m)):=by
 have H:∀x:{d:Dk // d.ok},∃q:Pf×{d:Dk // d.ok},Made (C1 n) q.1/\AC E 19 [.ptr 0 0,.s .fm lems,.agg [.s .ty tys,.s .fm hyps],.i n] ⟨1,[(0,.var x.1.cells)]⟩ (.agg q.1.view) ⟨1,[(0,.var q.2.1.cells)]⟩:=fun x=>by
  obtain⟨p,d',hm,ok',hA⟩:=Ov n hn lems tys hyps x.1 n rfl x.2 hc hs;exact⟨(p,⟨d',ok'⟩),hm,hA⟩
 have G:∀x:{d:Dk // d.ok},∃q:Fm×List Int×Int,(q.2.2=0->q.1.err=0/\q.1.Bl tys)/\PC E 58 [.s .fm lems,.agg [.s .ty tys,.s .fm hyps],.agg (Classical.choose (H x)).1.view] (DG q.1 q.2.1 q.2.2):=fun x=>by
  obtain⟨x,us,e,h1,h2⟩:=KS hc hs (Classical.choose_spec (H x)).1 (by have:=uc hn;omega);exact⟨(x,us,e),h1,h2⟩
 obtain⟨D,D0,DS⟩:∃D:Nat->{d:Dk // d.ok},D 0=⟨d,hd⟩/\∀m,D (m+1)=(Classical.choose (H (D m))).2:=⟨fun m=>Nat.rec ⟨d,hd⟩ (fun _ x=>(Classical.choose (H x)).2) m,rfl,fun m=>rfl⟩;refine⟨fun m=>(Classical.choose (H (D m))).1,fun m=>(D m).1,fun m=>(Classical.choose (G (D m))).1,fun m=>(Classical.choose (G (D m))).2.1,fun m=>(Classical.choose (G (D m))).2.2,by simp only[D0],
  fun m=>⟨(D m).2,(Classical.choose_spec (H (D m))).1,(Classical.choose_spec (G (D m))).1,?_,(Classical.choose_spec (G (D m))).2⟩⟩
 simp only[DS m];exact(Classical.choose_spec (H (D m))).2
theorem Ycn(n:Nat)(lems:List Fm)(tys:List Ty)(hyps:List Fm)(pf:Nat->Pf)(dk:Nat->Dk)(xf:Nat->Fm)(us:Nat->List Int)(er:Nat->Int)(Mx:Nat)(hM:Mx<4)(h0:er Mx=0)(hl:∀m,m<Mx->er m≠0)
 (hA:∀m,AC E 19 [.ptr 0 0,.s .fm lems,.agg [.s .ty tys,.s .fm hyps],.i n] ⟨1,[(0,.var (dk m).cells)]⟩ (.agg (pf m).view) ⟨1,[(0,.var (dk (m+1)).cells)]⟩)
 (hI:∀m,PC E 58 [.s .fm lems,.agg [.s .ty tys,.s .fm hyps],.agg (pf m).view] (DG (xf m) (us m) (er m))):
 AC E 36 [.ptr 0 0,.s .fm lems,.agg [.s .ty tys,.s .fm hyps],.i n] ⟨1,[(0,.var (dk 0).cells)]⟩ (.Az [.agg (pf Mx).view,.agg ((xf Mx).view++[.s .int (us Mx)])]) ⟨1,[(0,.var (dk (Mx+1)).cells)]⟩:=by
 refine M.F Tryz.func36 ?_;(repeat' first|refine M.gw ?_|fail);refine AW.block (AW.loop (ι:={m:Nat // m<=Mx})
  (fun m=>([(0,.ptr 0 0),(1,.s .fm lems),(3,.i n),(6,.ptr 1 0),(8,.ptr 2 0),(9,.ptr 3 0),(16,.i m.1)],⟨4,[(0,.var (dk m.1).cells),(1,.var [.s .ty tys,.s .fm hyps]),
   (2,.var [.i 0,.i 0,.i 0,.slice .nil (.t .ty []),.slice .nil (.t .tm []),.slice .nil (.t .fm []),.slice .nil (.t .pf [])]),
   (3,.var [.i 0,.i 0,.slice .nil (.t .ty []),.slice .nil (.t .tm []),.slice .nil (.t .fm []),.slice .nil (.t .int [])])]⟩))
  (fun m=>Mx-m.1) ⟨0,Nat.zero_le _⟩ (M.W [some 0,some 1,some 2,some 3]) fun x=> ?_)
 obtain⟨m,hm⟩:∃m,m=x.1:=⟨_,rfl⟩;have hmM:x.1<=Mx:=x.2;have hA1:=hA x.1;have hI1:=hI x.1;by_cases e:er x.1=0
 ·have hx:x.1=Mx:=by
   refine Nat.le_antisymm hmM (Nat.le_of_not_lt fun hc=>hl _ hc e)
  rw[e] at hI1;rw[show pf Mx=pf x.1 by rw[hx],show xf Mx=xf x.1 by rw[hx],show us Mx=us x.1 by rw[hx],show dk (Mx+1)=dk (x.1+1) by rw[hx]];(repeat' first|refine M.gw ?_|refine M.cb (hA1) [0] 0 ?_|refine M.c2 (hI1) ?_|refine M.zb ?_|refine M.ks ?_ ?_<;>intro h|fail);all_goals first|exfalso;simp at h;omega|exact M.n2 [some 0] (h8:=(by simp[zj,V.wk,V.Ap,za,Ty.view,Tm.view,Pf.view,Fm.view]))
 ·have hx:x.1<Mx:=by
   refine Nat.lt_of_le_of_ne hmM fun hc=>e (by rw[hc];exact h0)
  (repeat' first|refine M.gw ?_|refine M.cb (hA1) [0] 0 ?_|refine M.c2 (hI1) ?_|refine M.zb ?_|refine M.ks ?_ ?_<;>intro h|refine M.cs ?_ ?_<;>intro h|fail);all_goals first
   |(exfalso;simp at h;omega)
   |(exfalso;simp at h;exact e h)
   |skip
  refine⟨⟨x.1+1,hx⟩,by simp only;omega,?_⟩;exact(M.W [some 0,some 1,some 2,some 3])
theorem Zuc(n:Nat)(lems:List Fm)(tys:List Ty)(hyps:List Fm)(pf:Nat->Pf)(dk:Nat->Dk)(xf:Nat->Fm)(us:Nat->List Int)(er:Nat->Int)(hl:∀m,m<4->er m≠0)
 (hA:∀m,AC E 19 [.ptr 0 0,.s .fm lems,.agg [.s .ty tys,.s .fm hyps],.i n] ⟨1,[(0,.var (dk m).cells)]⟩ (.agg (pf m).view) ⟨1,[(0,.var (dk (m+1)).cells)]⟩)
 (hI:∀m,PC E 58 [.s .fm lems,.agg [.s .ty tys,.s .fm hyps],.agg (pf m).view] (DG (xf m) (us m) (er m)))
 {d':Dk} {i:Int} {p:Pf} {x:Fm} {u:List Int} {e:Int} (h1:AC E 33 [.ptr 0 0,.i 4] ⟨1,[(0,.var (dk 4).cells)]⟩ (.i i) ⟨1,[(0,.var d'.cells)]⟩)
 (h2:PC E 17 [.i i] (.agg (xn i).view)) (h3:PC E 32 [.agg (xn i).view] (.agg p.view))
 (h4:PC E 58 [.s .fm lems,.agg [.s .ty tys,.s .fm hyps],.agg p.view] (DG x u e)):
 AC E 36 [.ptr 0 0,.s .fm lems,.agg [.s .ty tys,.s .fm hyps],.i n] ⟨1,[(0,.var (dk 0).cells)]⟩ (.Az [.agg p.view,.agg (x.view++[.s .int u])]) ⟨1,[(0,.var d'.cells)]⟩:=by
 generalize xn i=N at*;refine M.F Tryz.func36 ?_;(repeat' first|refine M.gw ?_|fail);refine AW.block (AW.loop (ι:={m:Nat // m<=4})
  (fun m=>([(0,.ptr 0 0),(1,.s .fm lems),(3,.i n),(6,.ptr 1 0),(8,.ptr 2 0),(9,.ptr 3 0),(16,.i m.1)],⟨4,[(0,.var (dk m.1).cells),(1,.var [.s .ty tys,.s .fm hyps]),
   (2,.var [.i 0,.i 0,.i 0,.slice .nil (.t .ty []),.slice .nil (.t .tm []),.slice .nil (.t .fm []),.slice .nil (.t .pf [])]),
   (3,.var [.i 0,.i 0,.slice .nil (.t .ty []),.slice .nil (.t .tm []),.slice .nil (.t .fm []),.slice .nil (.t .int [])])]⟩))
  (fun m=>4-m.1) ⟨0,Nat.zero_le _⟩ (M.W [some 0,some 1,some 2,some 3]) fun y=> ?_)
 have hmM:y.1<=4:=y.2;have hA1:=hA y.1;have hI1:=hI y.1;by_cases hy:y.1<4
 ·have e:=hl _ hy;(repeat' first|refine M.gw ?_|refine M.cb (hA1) [0] 0 ?_|refine M.c2 (hI1) ?_|refine M.zb ?_|refine M.ks ?_ ?_<;>intro h|refine M.cs ?_ ?_<;>intro h|fail);all_goals first
   |(exfalso;simp at h;omega)
   |(exfalso;simp at h;exact e h)
   |skip
  refine⟨⟨y.1+1,hy⟩,by simp only;omega,?_⟩;exact(M.W [some 0,some 1,some 2,some 3])
 ·rw[show dk 4=dk y.1 by rw[show y.1=4 by omega]] at h1;(repeat' first|refine M.gw ?_|refine M.cb (h1) [0] 0 ?_|refine M.c2 (h2) ?_|refine M.c2 (h3) ?_|refine M.c2 (h4) ?_|refine M.zb ?_|refine M.ks ?_ ?_<;>intro h|fail);all_goals first|exfalso;simp at h;omega|exact M.n2 [some 0] (h8:=(by simp[zj,V.wk,V.Ap,za,Ty.view,Tm.view,Pf.view,Fm.view]))
theorem Nb(g:List Ty){i:Int}(hi:0<=i/\i<4):CB g (xn i):=by
 obtain⟨m,rfl⟩:∃m:Nat,i=m:=⟨i.toNat,by omega⟩;have h4:m=0\/m=1\/m=2\/m=3:=by omega
 refine⟨?_,?_,?_⟩
 ·rcases h4 with rfl|rfl|rfl|rfl<;>decide
 ·rcases h4 with rfl|rfl|rfl|rfl<;>exact MS g _
 ·rcases h4 with rfl|rfl|rfl|rfl<;>decide
theorem Q6(n:Nat)(hn:n<=4)(lems:List Fm)(tys:List Ty)(hyps:List Fm)(hc:(Ck.mk lems tys hyps).ok)(hs:Al tys)(d:Dk)(hd:d.ok):
 ∃(p:Pf) (x:Fm) (u:List Int) (d':Dk),Made (C1 n) p/\x.err=0/\x.Bl tys/\d'.ok/\
  AC E 36 [.ptr 0 0,.s .fm lems,.agg [.s .ty tys,.s .fm hyps],.i n] ⟨1,[(0,.var d.cells)]⟩ (.Az [.agg p.view,.agg (x.view++[.s .int u])]) ⟨1,[(0,.var d'.cells)]⟩:=by
 obtain⟨pf,dk,xf,us,er,rfl,hT⟩:=Ylj n hn lems tys hyps hc hs d hd;have hA:=fun m=>(hT m).2.2.2.1;have hI:=fun m=>(hT m).2.2.2.2;have hit:∀M,M<4->er M=0->(∀m,m<M->er m≠0)->∃(p:Pf) (x:Fm) (u:List Int) (d':Dk),Made (C1 n) p/\x.err=0/\x.Bl tys/\d'.ok/\
  AC E 36 [.ptr 0 0,.s .fm lems,.agg [.s .ty tys,.s .fm hyps],.i n] ⟨1,[(0,.var (dk 0).cells)]⟩ (.Az [.agg p.view,.agg (x.view++[.s .int u])]) ⟨1,[(0,.var d'.cells)]⟩:=fun M hM h0 hl=>
  ⟨pf M,xf M,us M,dk (M+1),(hT M).2.1,((hT M).2.2.1 h0).1,((hT M).2.2.1 h0).2,(hT (M+1)).1,Ycn n lems tys hyps pf dk xf us er M hM h0 hl hA hI⟩
 by_cases e0:er 0=0
 ·exact hit 0 (by omega) e0 (fun m h=>by omega)
 by_cases e1:er 1=0
 ·exact hit 1 (by omega) e1 (fun m h=>by obtain rfl:m=0:=by omega
                                         exact e0)
 by_cases e2:er 2=0
 ·exact hit 2 (by omega) e2 (fun m h=>by
   rcases(show m=0\/m=1 by omega) with rfl|rfl
   ·exact e0
   ·exact e1)
 by_cases e3:er 3=0
 ·exact hit 3 (by omega) e3 (fun m h=>by
   rcases(show m=0\/m=1\/m=2 by omega) with rfl|rfl|rfl
   ·exact e0
   ·exact e1
   ·exact e2)
 have h1:=uv (dk 4) 4 (hT 4).1 (by omega);have hb:=Dk.Bx (dk 4) 4 (by omega);have no:=Nb tys (i:=((dk 4).next 4).1) (by omega);have ti:=C2.of no.err no.inf (by have:=hc.len;simp only at this;omega);have hm:=(Made.ref ti).up (show 300010<=C1 n by have:=wd n;omega);have fN:=z9 no.err;have h3:=x8 (xn ((dk 4).next 4).1) (by omega);have h0:=hc.sum;have h4:=T0 lems hyps tys (xe (xn ((dk 4).next 4).1)) (fun f hf=>by have:=yf (hc.lems f hf).1;omega) (fun f hf=>by have:=yf (hc.hyps f hf).1;omega) (by simp only at h0;omega) (by have:=hc.nl;simp only at this;omega) (by have:=hc.nh;simp only at this;omega)
  (by have:=hm.full;have:=uc hn;show(Pf.mk 18 0 (.mk 0 []) [xn ((dk 4).next 4).1] [] []).full<_;omega)
 have hr:Hy lems tys hyps (xe (xn ((dk 4).next 4).1))=(AP (xn ((dk 4).next 4).1) (xn ((dk 4).next 4).1),[],0):=by
  unfold Hy;rw[if_neg (by rw[show G5 lems tys hyps=0 from Ta hc];simp),if_neg (by rw[Td no.err];simp)];exact V2 (WS hc no.err no.inf) (no.GG no)
 rw[hr] at h4;exact⟨_,_,_,_,hm,no.GG no,CL.2 ⟨no.inf,no.inf⟩,Dk.AE (hT 4).1 4,
  Zuc n lems tys hyps pf dk xf us er (fun m hm4=>by
   rcases(show m=0\/m=1\/m=2\/m=3 by omega) with rfl|rfl|rfl|rfl
   ·exact e0
   ·exact e1
   ·exact e2
   ·exact e3) hA hI h1 (GP _) h3 h4⟩
def Ki(lems:List Fm)(tys:List Ty)(hyps:List Fm)(d:Dk):Prop:=∃(p:Pf) (d':Dk),Made 400000000 p/\d'.ok/\
 AC E 12 [.ptr 0 0,.s .fm lems,.agg [.s .ty tys,.s .fm hyps]] ⟨1,[(0,.var d.cells)]⟩ (.agg p.view) ⟨1,[(0,.var d'.cells)]⟩
theorem Yln(lems:List Fm)(tys:List Ty)(hyps:List Fm)(hc:(Ck.mk lems tys hyps).ok)(hs:Al tys)(d d1 d2:Dk)(ok2:d2.ok){p:Pf}{x:Fm}{u:List Int}(mp:Made (C1 2) p)
 (h1:AC E 36 [.ptr 0 0,.s .fm lems,.agg [.s .ty tys,.s .fm hyps],.i 2] ⟨1,[(0,.var d.cells)]⟩ (.Az [.agg p.view,.agg (x.view++[.s .int u])]) ⟨1,[(0,.var d1.cells)]⟩)
 (h2:AC E 33 [.ptr 0 0,.i 5] ⟨1,[(0,.var d1.cells)]⟩ (.i 0) ⟨1,[(0,.var d2.cells)]⟩):Ki lems tys hyps d:=by
 obtain⟨r,y,w,d3,mr,_,_,ok3,h3⟩:=Q6 2 (by omega) lems tys hyps hc hs d2 ok2;obtain⟨i,d4,ok4,hi,h4⟩:=FT d3 2 ok3 (by omega);have b2:C1 2=36000000:=by decide
 have fp:=mp.full;have fr:=mr.full;have m1:=mp.two (k:=3) (by omega) mr;have q1:=w8 3 [p,r] (by simp) (by intro x hx;simp only[List.mem_cons,List.not_mem_nil,or_false] at hx;rcases hx with rfl|rfl<;>omega);have q2:=w8 (4+i) [.mk 3 0 (.mk 0 []) [] [] [p,r]] (by simp) (by intro x hx;simp only[List.mem_cons,List.not_mem_nil,or_false] at hx;subst hx;have:=m1.full;omega);refine⟨_,d4,(m1.one (k:=4+i) (by omega)).up (by omega),ok4,?_⟩;refine M.F Tryz.func12 ?_;(repeat' first|refine M.gw ?_|refine M.cb (h1) [0] 0 ?_|refine M.cb (h2) [0] 0 ?_|refine M.cb (h3) [0] 0 ?_|refine M.cb (h4) [0] 0 ?_|refine M.c2 (q1) ?_|refine M.c2 (q2) ?_|refine M.bl ?_|fail)
 (exact M.n2 [some 0] (h8:=(by simp[zj,V.wk,V.Ap,za,Ty.view,Tm.view,Pf.view])))
theorem Yl5(lems:List Fm)(tys:List Ty)(hyps:List Fm)(hc:(Ck.mk lems tys hyps).ok)(hs:Al tys)(d d1 d2:Dk)(ok2:d2.ok){p:Pf}{x:Fm}{u:List Int}(mp:Made (C1 2) p)
 (h1:AC E 36 [.ptr 0 0,.s .fm lems,.agg [.s .ty tys,.s .fm hyps],.i 2] ⟨1,[(0,.var d.cells)]⟩ (.Az [.agg p.view,.agg (x.view++[.s .int u])]) ⟨1,[(0,.var d1.cells)]⟩)
 (h2:AC E 33 [.ptr 0 0,.i 5] ⟨1,[(0,.var d1.cells)]⟩ (.i 3) ⟨1,[(0,.var d2.cells)]⟩)
 (mz:∀t:Tm,t.err=0->t.inf tys=(Af,0)->Made 2000000 (I7 t)):Ki lems tys hyps d:=by
 obtain⟨i,d4,ok4,hi,h4⟩:=FT d2 4 ok2 (by omega);have no:=Nb tys (i:=i) (by omega);have fN:=z9 no.err;have h5:=GP i;have h6:=TS (xn i) (by omega);refine⟨_,d4,(mz _ no.err no.inf).up (by omega),ok4,?_⟩;generalize I7 (xn i)=Z at*;generalize xn i=N at*;refine M.F Tryz.func12 ?_;(repeat' first|refine M.gw ?_|refine M.cb (h1) [0] 0 ?_|refine M.cb (h2) [0] 0 ?_|refine M.cb (h4) [0] 0 ?_|refine M.c2 (h5) ?_|refine M.c2 (h6) ?_|refine M.bl ?_|fail)
 (exact M.n2 [some 0] (h8:=(by simp[zj,V.wk,V.Ap,za,Ty.view,Tm.view,Pf.view])))
theorem Yly(lems:List Fm)(tys:List Ty)(hyps:List Fm)(hc:(Ck.mk lems tys hyps).ok)(hh:hyps.length<=10)(hs:Al tys)(d d1 d2:Dk)(ok2:d2.ok){p:Pf}{x:Fm}{u:List Int}(mp:Made (C1 2) p)(ex:x.err=0)(ox:x.Bl tys)
 (h1:AC E 36 [.ptr 0 0,.s .fm lems,.agg [.s .ty tys,.s .fm hyps],.i 2] ⟨1,[(0,.var d.cells)]⟩ (.Az [.agg p.view,.agg (x.view++[.s .int u])]) ⟨1,[(0,.var d1.cells)]⟩)
 (h2:AC E 33 [.ptr 0 0,.i 5] ⟨1,[(0,.var d1.cells)]⟩ (.i 1) ⟨1,[(0,.var d2.cells)]⟩):Ki lems tys hyps d:=by
 have hc2:(Ck.mk lems tys (hyps++[x])).ok:=⟨hc.ctx,by simp;omega,hc.nl,fun f hf=>by
  rcases List.mem_append.1 hf with h|h
  ·exact hc.hyps f h
  ·simp only[List.mem_singleton] at h;subst h;exact⟨ex,ox⟩,hc.lems⟩
 obtain⟨r,y,w,d3,mr,_,_,ok3,h3⟩:=Q6 2 (by omega) lems tys (hyps++[x]) hc2 hs d2 ok2;have b2:C1 2=36000000:=by decide
 have fp:=mp.full;have fr:=mr.full;have fx:=yf ex;have xi:=DY.of ex ox (by have:=hc.len;simp only at this;omega);have m1:=Made.imp xi mr;have q1:=Mn x r (by omega) (by omega);have q2:=w8 7 [.mk 6 0 (.mk 0 []) [] [x] [r],p] (by simp) (by intro z hz;simp only[List.mem_cons,List.not_mem_nil,or_false] at hz;have:=m1.full;rcases hz with rfl|rfl<;>omega);refine⟨_,d3,(m1.two (k:=7) (by omega) mp).up (by omega),ok3,?_⟩;refine M.F Tryz.func12 ?_;(repeat' first|refine M.gw ?_|refine M.cb (h1) [0] 0 ?_|refine M.cb (h2) [0] 0 ?_|refine M.cb (h3) [0] 0 ?_|refine M.c2 (q1) ?_|refine M.c2 (q2) ?_|refine M.bl ?_|fail)
 (exact M.n2 [some 0] (h8:=(by simp[zj,V.wk,V.Ap,za,Ty.view,Tm.view,Pf.view])))
theorem Ykk(lems:List Fm)(tys:List Ty)(hyps:List Fm)(hc:(Ck.mk lems tys hyps).ok)(hs:Al tys)(d d1 d2:Dk)(ok2:d2.ok){p:Pf}{x:Fm}{u:List Int}(mp:Made (C1 2) p)(ex:x.err=0)(ox:x.Bl tys)
 (h1:AC E 36 [.ptr 0 0,.s .fm lems,.agg [.s .ty tys,.s .fm hyps],.i 2] ⟨1,[(0,.var d.cells)]⟩ (.Az [.agg p.view,.agg (x.view++[.s .int u])]) ⟨1,[(0,.var d1.cells)]⟩)
 (h2:AC E 33 [.ptr 0 0,.i 5] ⟨1,[(0,.var d1.cells)]⟩ (.i 2) ⟨1,[(0,.var d2.cells)]⟩):Ki lems tys hyps d:=by
 obtain⟨i,d4,ok4,hi,h4⟩:=FT d2 4 ok2 (by omega);have hl:tys.length<=16:=by have:=hc.len;simpa using this
 have no:=Nb tys (i:=i) (by omega);have ti:=C2.of no.err no.inf (by omega);have fN:=z9 no.err;have h5:=GP i;have fx:=yf ex;have hU:=Ff ox ((Fm.Ae _).1 ex).1 (by have:=((Fm.Ae _).1 ex).2;omega) (by omega) 0 1 (by omega) (by omega);have fl:=Je x 0 1;have hf:=M9 ex ox Af (by omega);have hy:=Jm 0;have mh:Made 10 (xo 0):=Made.hyp (by omega);have fh:=mh.full;have fp:=mp.full;have b2:C1 2=36000000:=by decide
 have h9:=LH 16 (x.AV 0 1) (xn i) p (xo 0) (by omega) (by omega) (by omega) (by omega);have m9:=Made.ind (k:=16) (Or.inl rfl) hf ti mp mh;have m8:=m9.up (show C1 2+10+600002<=400000000 by rw[b2];decide);refine⟨_,d4,m8,ok4,?_⟩;clear m8 m9 ti no hf mh;generalize x.AV 0 1=y at*;generalize xn i=N at*;refine M.F Tryz.func12 ?_;(repeat' first|refine M.gw ?_|refine M.cb (h1) [0] 0 ?_|refine M.cb (h2) [0] 0 ?_|refine M.cb (h4) [0] 0 ?_|refine M.c2 (h5) ?_|refine M.c2 (hU) ?_|refine M.c2 (hy) ?_|refine M.c2 (h9) ?_|refine M.bl ?_|fail)
 (exact M.n2 [some 0] (h8:=(by simp[zj,V.wk,V.Ap,za,Ty.view,Tm.view,Pf.view])))
def P3(i:Int):Tm:= .mk 8 0 (.mk 0 []) [xn i,.mk 7 0 (.mk 0 []) []]
theorem Yh7{i:Int}(h:0<=i/\i<3):C2 (P3 i):=by
 obtain⟨m,rfl⟩:∃m:Nat,i=m:=⟨i.toNat,by omega⟩;have h4:m=0\/m=1\/m=2:=by omega
 rcases h4 with rfl|rfl|rfl
 ·exact Hh _ (by decide+kernel) (by decide+kernel) (by decide+kernel)
 ·exact Hh _ (by decide+kernel) (by decide+kernel) (by decide+kernel)
 ·exact Hh _ (by decide+kernel) (by decide+kernel) (by decide+kernel)
theorem Yk7(lems:List Fm)(tys:List Ty)(hyps:List Fm)(hc:(Ck.mk lems tys hyps).ok)(hs:Al tys)(d d1 d2:Dk)(ok2:d2.ok){p:Pf}{x:Fm}{u:List Int}(mp:Made (C1 2) p)(ex:x.err=0)(ox:x.Bl tys)
 (h1:AC E 36 [.ptr 0 0,.s .fm lems,.agg [.s .ty tys,.s .fm hyps],.i 2] ⟨1,[(0,.var d.cells)]⟩ (.Az [.agg p.view,.agg (x.view++[.s .int u])]) ⟨1,[(0,.var d1.cells)]⟩)
 (h2:AC E 33 [.ptr 0 0,.i 5] ⟨1,[(0,.var d1.cells)]⟩ (.i 4) ⟨1,[(0,.var d2.cells)]⟩):Ki lems tys hyps d:=by
 obtain⟨i,d4,ok4,hi,h4⟩:=FT d2 3 ok2 (by omega);have hl:tys.length<=16:=by have:=hc.len;simpa using this
 have no:=Nb tys (i:=i) (by omega);have ti:=Yh7 hi;have fN:=z9 no.err;have h5:=GP i;have n1:=CJ 7 [] (by simp);have n2:=CJ 8 [xn i,.mk 7 0 (.mk 0 []) []] (by simp only[List.map_cons,List.map_nil,List.sum_cons,List.sum_nil,show(Tm.mk 7 0 (.mk 0 []) []).full=2 from by decide];omega);have fx:=yf ex;have hU:=Ff ox ((Fm.Ae _).1 ex).1 (by have:=((Fm.Ae _).1 ex).2;omega) (by omega) 0 1 (by omega) (by omega);have fl:=Je x 0 1;have hf:=M9 ex ox Am (by omega);have hy:=Jm 0;have mh:Made 10 (xo 0):=Made.hyp (by omega);have fh:=mh.full;have fp:=mp.full;have b2:C1 2=36000000:=by decide
 have ft:=ti.2.2;have h9:=LH 17 (x.AV 0 1) (P3 i) p (xo 0) (by omega) (by omega) (by omega) (by omega);have m9:=Made.ind (k:=17) (Or.inr rfl) hf ti mp mh;have m8:=m9.up (show C1 2+10+600002<=400000000 by rw[b2];decide);refine⟨_,d4,m8,ok4,?_⟩;clear m8 m9 ti no hf mh ft;unfold P3 at h9 ⊢;generalize x.AV 0 1=y at*;generalize xn i=N at*;refine M.F Tryz.func12 ?_;(repeat' first|refine M.gw ?_|refine M.cb (h1) [0] 0 ?_|refine M.cb (h2) [0] 0 ?_|refine M.cb (h4) [0] 0 ?_|refine M.c2 (h5) ?_|refine M.c2 (n1) ?_|refine M.c2 (n2) ?_|refine M.c2 (hU) ?_|refine M.c2 (hy) ?_|refine M.c2 (h9) ?_|refine M.bl ?_|fail)
 (exact M.n2 [some 0] (h8:=(by simp[zj,V.wk,V.Ap,za,Ty.view,Tm.view,Pf.view])))
theorem Zsx(t:Tm)(ti:C2 t):Made 2000000 (I7 t):=by
 have s1:Made 700000 Cc:=(Made.sub (f:=AP (AO (D9.re (zl 0 1) 0) (Cl.re (zl 0 1) 0)) (AO (D9.re (zl 0 1) 0) (vT 0))) (N5 _ (by decide+kernel) (by decide+kernel) (by decide+kernel)) (Made.hyp (i:=0) (by omega)) (Made.ref (t:=AO D9 Cl) (Hh _ (by decide+kernel) (by decide+kernel) (by decide+kernel)))).up (by omega);exact(Made.ind (k:=16) (by omega) (f:=AP Cl (vT 0)) (t:=t) (N5 _ (by decide+kernel) (by decide+kernel) (by decide+kernel)) ti (Made.ref (Hh zT (by decide) (by decide) (by decide))) s1).up (by omega)
theorem Pr(lems:List Fm)(tys:List Ty)(hyps:List Fm)(hc:(Ck.mk lems tys hyps).ok)(hh:hyps.length<=10)(hs:Al tys)(d:Dk)(hd:d.ok):Ki lems tys hyps d:=by
 obtain⟨p,x,u,d1,mp,ex,ox,ok1,h1⟩:=Q6 2 (by omega) lems tys hyps hc hs d hd;obtain⟨i,d2,ok2,hi,h2⟩:=FT d1 5 ok1 (by omega);have hl:tys.length<=20:=by have:=hc.len;simp only at this;omega
 rcases(show i=0\/i=1\/i=2\/i=3\/i=4 by omega) with rfl|rfl|rfl|rfl|rfl
 ·exact Yln lems tys hyps hc hs d d1 d2 ok2 mp h1 h2
 ·exact Yly lems tys hyps hc hh hs d d1 d2 ok2 mp ex ox h1 h2
 ·exact Ykk lems tys hyps hc hs d d1 d2 ok2 mp ex ox h1 h2
 ·exact Yl5 lems tys hyps hc hs d d1 d2 ok2 mp h1 h2 fun t h h'=>Zsx t (C2.of h h' hl)
 ·exact Yk7 lems tys hyps hc hs d d1 d2 ok2 mp ex ox h1 h2
end Go.Ab
