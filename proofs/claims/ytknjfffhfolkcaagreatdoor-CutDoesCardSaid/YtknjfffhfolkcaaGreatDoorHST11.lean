/- A part of this seat's proofs. No conditions. -/
import Derived.Test.YtknjfffhfolkcaaGreatDoorHST10
import Derived.Test.YtknjfffhfolkcaaGreatDoorHST6
namespace Go.Ab
open Go Go.Proofs
set_option maxRecDepth 100000
set_option maxHeartbeats 4000000
set_option linter.all false
theorem Q0(p:Pf)(hp:p.full<5000000000)(hs:p.nd):PC E 93 [.agg p.view] (.bool p.AO):=by
 have hc:=Ygg _ p 0 0 [] (Wj _) (by omega) (by omega) (by omega) hs;rw[WW] at hc;unfold Pf.AO;generalize (p.Cv Dg 0).all id=b at*;refine M.F Tryz.func93 ?_;(repeat' first|refine M.gw ?_|refine M.cv (hc) [1] 0 ?_|fail);simp[zk,V.wk,V.Ap,zc,Ty.view,Tm.view]
theorem Yao(p:Pf)(a:Int)(hp:p.full<1000000000)(hs:p.nd)(hx:p.hx 9223372036854775808):PC E 198 [.agg p.view,.i a] (.i (E3 p a)):=by
 have hl:=Uh a p 0;have hc:=Ygi a _ p 0 0 [] (Wj _) (by omega) (by omega) (by omega) hs hx (by rw[WW];omega);rw[WW] at hc;unfold E3;generalize (p.Cv (vj a) 0).length=n at*;refine M.F Tryz.func198 ?_;(repeat' first|refine M.gw ?_|refine M.cv (hc) [1,2] 0 ?_|fail);simp[zk,V.wk,V.Ap,zc,Ty.view,Tm.view]
theorem RG(n m:Int):PC E 197 [.i n,.i m] (.bool (decide (0<=n/\n<=m))):=by
 by_cases h1:0<=n
 .by_cases h2:n<=m
  .rw[decide_eq_true ⟨h1,h2⟩];refine M.F Tryz.func197 ?_;(repeat' first|refine M.gw ?_|refine M.gs ?_ ?_<;>intro h|fail);all_goals first|simp[zk,V.wk];omega|exfalso;simp at*;omega|simp[zk,V.wk,h1,h2];done
  .rw[decide_eq_false (by omega)];refine M.F Tryz.func197 ?_;(repeat' first|refine M.gw ?_|refine M.gs ?_ ?_<;>intro h|fail);all_goals first|exfalso;simp at*;omega|simp[zk,V.wk,h1,h2];done|simp[zk,V.wk];omega
 .rw[decide_eq_false (by omega)];refine M.F Tryz.func197 ?_;(repeat' first|refine M.gw ?_|refine M.gs ?_ ?_<;>intro h|fail);all_goals first|exfalso;simp at*;omega|simp[zk,V.wk,h1];done|simp[zk,V.wk];omega
theorem QO(p:Pf)(hp:p.full<274877906944):PC E 196 [.agg p.view] (.AD [.i p.num,.i p.err]):=by
 have h:=Vf p hp;refine M.F Tryz.func196 ?_;(repeat' first|refine M.gw ?_|refine M.c2 (h) ?_|fail)
 rfl
theorem Jh{p:Pf}(h:p.err=0):p.shape=true/\p.small=true/\p.size<=16384/\p.nd/\p.full<=1064960/\p.num=p.size:=by
 have h1:=(Pf.Ad p).1 h;have h2:=IM p h1.1;exact⟨h1.1,h1.2.1,h1.2.2,Hw p h1.1,by omega,by unfold Pf.num;rw[if_pos h]⟩
theorem Ygl(p:Pf)(a:Int)(s:Tm)(hp:p.full<274877906944)(hs:s.full<274877906944):PC E 171 [.agg p.view,.i a,.agg s.view] (.AD [.agg (if yu p a s=0 then p.pt a s 0 else BM).view,.i (yu p a s)]):=by
 have h1:=QO p hp;by_cases he:p.err=0;case neg=>
  rw[Ph he,if_neg he];refine M.F Tryz.func171 ?_;(repeat' first|refine M.go ?_|refine M.c2 (h1) ?_|refine M.z1 4 ?_|refine M.cs ?_ ?_<;>intro h|refine M.gk ?_|fail);all_goals first
   |rfl
   |(exfalso;simp at h;exact he h)
   |trace_state
 obtain⟨g1,g2,g3,g4,g5,g6⟩:=Jh he;rw[he,g6] at h1;have h2:=RG a 4096;by_cases ha:0<=a/\a<=4096;case neg=>
  rw[decide_eq_false ha] at h2;rw[QJ he ha,if_neg (by decide)];refine M.F Tryz.func171 ?_;(repeat' first|refine M.gw ?_|refine M.c2 (h1) ?_|refine M.c2 (h2) ?_|fail)
  rfl
 rw[decide_eq_true ha] at h2;have h3:=Yib s (by omega);by_cases es:s.err=0;case neg=>
  rw[Px he ha es,if_neg es];refine M.F Tryz.func171 ?_;(repeat' first|refine M.go ?_|refine M.c2 (h1) ?_|refine M.c2 (h2) ?_|refine M.c2 (h3) ?_|refine M.z1 9 ?_|refine M.cs ?_ ?_<;>intro h|refine M.gk ?_|fail);all_goals first
   |rfl
   |(exfalso;simp at h;exact es h)
   |trace_state
 have s1:=(Tm.Ad s).1 es;have s2:=z6 es;rw[es,show s.num=s.size by unfold Tm.num;rw[if_pos es]] at h3;have h4:=On p (by omega) g4;have h5:=Mb s (by omega);by_cases hn:p.AG=false\/s.near=false
 .rw[L2 he ha es hn,if_neg (by decide)];cases hb:p.AG with
  |false=>
   rw[hb] at h4;refine M.F Tryz.func171 ?_;(repeat' first|refine M.gw ?_|refine M.c2 (h1) ?_|refine M.c2 (h2) ?_|refine M.c2 (h3) ?_|refine M.c2 (h4) ?_|fail)
   rfl
  |true=>
   rw[hb] at h4;rw[hn.resolve_left (by simp[hb])] at h5;refine M.F Tryz.func171 ?_;(repeat' first|refine M.gw ?_|refine M.c2 (h1) ?_|refine M.c2 (h2) ?_|refine M.c2 (h3) ?_|refine M.c2 (h4) ?_|refine M.c2 (h5) ?_|fail)
   rfl
 rw[Pw he ha es hn];have n1:p.AG=true:=by cases h:p.AG with|true=>rfl|false=>exact absurd (.inl h) hn
 have n2:s.near=true:=by cases h:s.near with|true=>rfl|false=>exact absurd (.inr h) hn
 rw[n1] at h4;rw[n2] at h5;have hix:=Lr p g1 g2 0 n1;have sp:=s.size_pos;have hG:=Tn a p g2 (by omega) 0;have h6:=Yf0 a s.size p.size ha (by omega) (by have:=p.size_pos;omega) _ p 0 0 [] (Wj _) (by omega) (by omega) (by omega) g4 (Gs hix (by omega)) g1 g2 (by rw[WW];exact hG);rw[WW] at h6;have hbd:=Ri (n:=p.size) (k:=s.size) (by omega) (by omega) hG;have h7:=Yfv p a s (by omega) (by omega) (PR es n2) (by omega) g4 hix;unfold FM;obtain⟨N0,e1⟩:∃x,x=CD p.size s.size (p.Cm (AR a) (AU a) 0):=⟨_,rfl⟩;obtain⟨B0,e2⟩:∃x,x=C3 s.size (p.Cm (AR a) (AU a) 0):=⟨_,rfl⟩;have e3:CD p.size s.size []=p.size:=by simp[CD]
 have e4:C3 s.size []=false:=by simp[C3]
 rw[<-e1,<-e2,e3,e4] at h6;rw[<-e1,<-e2];generalize p.pt a s 0=P at*;clear e1 e2 hbd hG;cases B0
 .by_cases hN:N0>16384
  .rw[if_pos (Or.inr hN),if_neg (by decide)];refine M.F Tryz.func171 ?_;(repeat' first|refine M.go ?_|refine M.c2 (h1) ?_|refine M.c2 (h2) ?_|refine M.c2 (h3) ?_|refine M.c2 (h4) ?_|refine M.c2 (h5) ?_|refine M.cv (h6) [6,1,4,5] 0 ?_|refine M.z1 15 ?_|refine M.cs ?_ ?_<;>intro h|refine M.gk ?_|fail);all_goals first
    |rfl
    |(exfalso;simp at h;omega)
    |trace_state
  .rw[if_neg (show ¬(false=true\/N0>16384) by simp;omega),if_pos rfl];refine M.F Tryz.func171 ?_;(repeat' first|refine M.gw ?_|refine M.c2 (h1) ?_|refine M.c2 (h2) ?_|refine M.c2 (h3) ?_|refine M.c2 (h4) ?_|refine M.c2 (h5) ?_|refine M.cv (h6) [6,1,4,5] 0 ?_|refine M.c2 (h7) ?_|refine M.cs ?_ ?_<;>intro h|fail);all_goals first
    |rfl
    |(exfalso;simp at h;omega)
    |trace_state
 .rw[if_pos (Or.inl rfl),if_neg (by decide)];refine M.F Tryz.func171 ?_;(repeat' first|refine M.gw ?_|refine M.c2 (h1) ?_|refine M.c2 (h2) ?_|refine M.c2 (h3) ?_|refine M.c2 (h4) ?_|refine M.c2 (h5) ?_|refine M.cv (h6) [6,1,4,5] 0 ?_|fail)
  rfl
theorem Ydo(p:Pf)(a:Int)(q:Pf)(hp:p.full<274877906944)(hq:q.full<274877906944):PC E 170 [.agg p.view,.i a,.agg q.view] (.AD [.agg (if wz p a q=0 then Pf.ph a q 0 0 p else BM).view,.i (wz p a q)]):=by
 have h1:=QO p hp;by_cases he:p.err=0;case neg=>
  rw[QC he,if_neg he];refine M.F Tryz.func170 ?_;(repeat' first|refine M.go ?_|refine M.c2 (h1) ?_|refine M.z1 4 ?_|refine M.cs ?_ ?_<;>intro h|refine M.gk ?_|fail);all_goals first
   |rfl
   |(exfalso;simp at h;exact he h)
   |trace_state
 obtain⟨g1,g2,g3,g4,g5,g6⟩:=Jh he;rw[he,g6] at h1;have h2:=RG a 16384;by_cases ha:0<=a/\a<=16384;case neg=>
  rw[decide_eq_false ha] at h2;rw[Qa he ha,if_neg (by decide)];refine M.F Tryz.func170 ?_;(repeat' first|refine M.gw ?_|refine M.c2 (h1) ?_|refine M.c2 (h2) ?_|fail)
  rfl
 rw[decide_eq_true ha] at h2;have h3:=QO q hq;by_cases es:q.err=0;case neg=>
  rw[Pu he ha es,if_neg es];refine M.F Tryz.func170 ?_;(repeat' first|refine M.go ?_|refine M.c2 (h1) ?_|refine M.c2 (h2) ?_|refine M.c2 (h3) ?_|refine M.z1 9 ?_|refine M.cs ?_ ?_<;>intro h|refine M.gk ?_|fail);all_goals first
   |rfl
   |(exfalso;simp at h;exact es h)
   |trace_state
 obtain⟨s1,s2,s3,s4,s5,s6⟩:=Jh es;rw[es,s6] at h3;have h4:=Q0 p (by omega) g4;have h5:=Q0 q (by omega) s4;have h6:=On q (by omega) s4;by_cases hn:p.AO=false\/q.AO=false\/q.AG=false
 .rw[OC he ha es hn,if_neg (by decide)];cases hb:p.AO with
  |false=>
   rw[hb] at h4;refine M.F Tryz.func170 ?_;(repeat' first|refine M.gw ?_|refine M.c2 (h1) ?_|refine M.c2 (h2) ?_|refine M.c2 (h3) ?_|refine M.c2 (h4) ?_|fail)
   rfl
  |true=>
   rw[hb] at h4;cases hb2:q.AO with
   |false=>
    rw[hb2] at h5;by_cases hpq:p=q
    .subst hpq;rw[hb] at hb2;cases hb2
    refine M.F Tryz.func170 ?_;(repeat' first|refine M.gw ?_|refine M.c2 (h1) ?_|refine M.c2 (h2) ?_|refine M.c2 (h3) ?_|refine M.c2 (h4) ?_|refine M.c2 (h5) ?_|fail)
    rfl
   |true=>
    rw[hb2] at h5;rw[(hn.resolve_left (by simp[hb])).resolve_left (by simp[hb2])] at h6;refine M.F Tryz.func170 ?_;(repeat' first|refine M.gw ?_|refine M.c2 (h1) ?_|refine M.c2 (h2) ?_|refine M.c2 (h3) ?_|refine M.c2 (h4) ?_|refine M.c2 (h5) ?_|refine M.c2 (h6) ?_|fail)
    rfl
 rw[O9 he ha es hn];have n1:p.AO=true:=by cases h:p.AO with|true=>rfl|false=>exact absurd (.inl h) hn
 have n2:q.AO=true:=by cases h:q.AO with|true=>rfl|false=>exact absurd (.inr (.inl h)) hn
 have n3:q.AG=true:=by cases h:q.AG with|true=>rfl|false=>exact absurd (.inr (.inr h)) hn
 rw[n1] at h4;rw[n2] at h5;rw[n3] at h6;have hx:=MM p g1 0 n1;have h7:=Yao p a (by omega) g4 (Ki hx (by omega));have hl:=Uh a p 0;have hcl:0<=E3 p a/\E3 p a<=1064960:=by unfold E3;omega
 have sp:=q.size_pos;have m1:0<=E3 p a*((q.size:Int)-1):=Yy hcl.1 (by omega);have m2:E3 p a*((q.size:Int)-1)<=1064960*16384:=Yz hcl.2 (by omega) (by omega) (by omega);have hm': -9223372036854775808<=E3 p a*((q.size:Int)-1)/\E3 p a*((q.size:Int)-1)<=9223372036854775807:=by omega
 have h8:=Yhd p a q (by omega) (by omega) s4 (by omega) g4 hx;generalize Pf.ph a q 0 0 p=P at*;by_cases hz:(p.size:Int)+E3 p a*(q.size-1)>16384
 .rw[if_pos hz,if_neg (by decide)];refine M.F Tryz.func170 ?_;(repeat' first|refine M.go ?_|refine M.c2 (h1) ?_|refine M.c2 (h2) ?_|refine M.c2 (h3) ?_|refine M.c2 (h4) ?_|refine M.c2 (h5) ?_|refine M.c2 (h6) ?_|refine M.c2 (h7) ?_|refine M.z1 13 ?_|refine M.cs ?_ ?_<;>intro h|refine M.gk ?_|fail);all_goals first
   |rfl
   |(exfalso;simp at h;omega)
   |trace_state
 .rw[if_neg hz,if_pos rfl];refine M.F Tryz.func170 ?_;(repeat' first|refine M.gw ?_|refine M.c2 (h1) ?_|refine M.c2 (h2) ?_|refine M.c2 (h3) ?_|refine M.c2 (h4) ?_|refine M.c2 (h5) ?_|refine M.c2 (h6) ?_|refine M.c2 (h7) ?_|refine M.c2 (h8) ?_|refine M.cs ?_ ?_<;>intro h|fail);all_goals first
   |rfl
   |(exfalso;simp at h;omega)
   |trace_state
theorem Tr(a k i y:Int):(vj a k i y).length=if k=1/\i-y=a then 1 else 0:=by unfold vj;split<;>rfl
theorem Vx(a:Int):∀k i y,(vj a k i y).length<=1:=fun k i y=>by rw[Tr];split<;>omega
theorem Zxa{f:Int->Int->Int->List Int}(hf:∀k i y,(f k i y).length<=1)(l:List Pf)(y w:Int)(m:Nat):((Pf.AM f y w l).take m).flatten.length<=(l.map Pf.full).sum:=by
 induction l generalizing m with
 |nil=>simp[Pf.AM]
 |cons x l ih=>
  cases m with
  |zero=>simp
  |succ m=>
   have q1:=ih m;have q2:=UA hf x (if l.length=0 then y+w else y);simp only[Pf.AM,Yl,Xd,WD,Wn,Wt];omega
theorem Ztr(a:Int)(ha:0<=a/\a<100000000):∀(n:Nat) (p:Pf) (y:Int),p.full<=n->n<10000000000->0<=y->y+2*n<50000000000->p.shape=true->
 PC E 210 [.agg p.view,.i (a+y)] (.i (p.Cv (vj a) y).length):=by
 intro n;induction n with
 |zero=>intro p v h;have:=p.Aa;omega
 |succ n ih=>
 intro p y hsz hn h2 h3 hs;obtain⟨nd,n1,n2,n3,n4,_⟩:=xr hs;obtain⟨_,s4,s5,s6⟩:=ze hs;have hsz':=p.Af;have hlen:=zd Pf.full Pf.Aa p.args;have b2:=Q2 p.kind;have hP:=Zxa (Vx a) p.args y (At p.kind);have he:=p.BG (vj a) y;have hL:∀(m:Nat) (hm:m<p.args.length),∃q,(0<=q/\q<=1)/\PC E 237 [.i p.kind,.i m] (.i q)/\∃X:Nat,
  PC E 210 [.agg (p.args[m]).view,.i (a+y+q)] (.i X)/\((Pf.AM (vj a) y (At p.kind) p.args).take m).flatten.length+X=((Pf.AM (vj a) y (At p.kind) p.args).take (m+1)).flatten.length:=fun m hm=>by
  have hs2:=za Pf.full (Wi hm);have hva:=Q1 n1 m (by omega);rw[<-n4] at hva;refine⟨_,?_,hva,(p.args[m].Cv (vj a) (if m+1=p.args.length then y+At p.kind else y)).length,?_,?_⟩
  .split<;>omega
  .have hc:=ih p.args[m] (if m+1=p.args.length then y+At p.kind else y) (by omega) (by omega) (by split<;>omega) (by split<;>omega) (s6 _ (Wi hm));have ea:a+(if m+1=p.args.length then y+At p.kind else y)=a+y+(if m+1=p.args.length then At p.kind else 0):=by split<;>omega
   rw[<-ea];exact hc
  .have et:=congrArg List.length (IX (vj a) (y:=y) (w:=At p.kind) hm);rw[WD] at et;exact et
 clear ih;have hend:(p.Cv (vj a) y).length=(if p.kind=1/\p.index-y=a then 1 else 0)+(Pf.AM (vj a) y (At p.kind) p.args).flatten.length:=by rw[he,WD,Tr]
 have hall:(Pf.AM (vj a) y (At p.kind) p.args).flatten=((Pf.AM (vj a) y (At p.kind) p.args).take p.args.length).flatten:=by rw[IL]
 rw[hend,hall];by_cases hk:p.kind=1/\p.index-y=a
 .rw[if_pos hk];obtain⟨hk1,hk2⟩:=hk;refine M.F Tryz.func210 ?_;(repeat' first|refine M.go ?_|refine M.gs ?_ ?_<;>intro h|refine M.z1 4 ?_|refine M.cs ?_ ?_<;>intro h|refine M.gk ?_|fail);all_goals first
   |(exfalso;simp at h;omega)
   |(exfalso;simp at h;exact h hk1)
   |(exfalso;simp_all;omega)
   |skip
  all_goals
   (repeat' first|refine M.gw ?_|fail);refine AW.range p.args.length (fun m=>True)
    (fun m=>([(1,.i (a+y)),(2,.ptr 0 0),(5,.i (1+((Pf.AM (vj a) y (At p.kind) p.args).take m).flatten.length:Nat)),(20,.s .pf p.args),(21,.i p.args.length),(22,.i m)],⟨1,[(0,.var p.view)]⟩))
    (by omega) (fun m=>rfl) (fun m=>rfl) rfl trivial (by simp only[WX,Xi,W3];exact(M.W [some 0])) ?_ ?_
   .intro m hm _;obtain⟨q,hq,hbo,X,hc,hX⟩:=hL m hm;have h4:=hP m;have h5:=hP (m+1);(repeat' first|refine M.gw ?_|refine M.c2 (hbo) ?_|refine M.c2 (hc) ?_|fail);refine⟨rfl,trivial,?_⟩;simp only[<-hX];exact(M.W [some 0] (hf:=(by(repeat'(first|exact trivial|refine And.intro ?_ ?_|refine⟨_,U,_,U,?_⟩|exact Ao.refl _|exact Ao.of_eq (by simp[Aq.Ay,W5,Xy])));done)))
   .intro _;(repeat' first|refine M.gw ?_|fail)
    rfl
 .rw[if_neg hk];refine M.F Tryz.func210 ?_;(repeat' first|refine M.go ?_|refine M.gs ?_ ?_<;>intro h|refine M.z2 3 4 ?_|refine M.cs ?_ ?_<;>intro h|refine M.gk ?_|fail);all_goals first
   |(exfalso;rename_i hp1;simp at h hp1;exact hk ⟨hp1,by omega⟩)
   |(exfalso;apply hk;simp_all;omega)
   |skip
  all_goals
   (repeat' first|refine M.gw ?_|fail);refine AW.range p.args.length (fun m=>True)
    (fun m=>([(1,.i (a+y)),(2,.ptr 0 0),(5,.i (0+((Pf.AM (vj a) y (At p.kind) p.args).take m).flatten.length:Nat)),(20,.s .pf p.args),(21,.i p.args.length),(22,.i m)],⟨1,[(0,.var p.view)]⟩))
    (by omega) (fun m=>rfl) (fun m=>rfl) rfl trivial (by simp only[WX,Xi,W3];exact(M.W [some 0])) ?_ ?_
   .intro m hm _;obtain⟨q,hq,hbo,X,hc,hX⟩:=hL m hm;have h4:=hP m;have h5:=hP (m+1);(repeat' first|refine M.gw ?_|refine M.c2 (hbo) ?_|refine M.c2 (hc) ?_|fail);refine⟨rfl,trivial,?_⟩;simp only[<-hX];exact(M.W [some 0] (hf:=(by(repeat'(first|exact trivial|refine And.intro ?_ ?_|refine⟨_,U,_,U,?_⟩|exact Ao.refl _|exact Ao.of_eq (by simp[Aq.Ay,W5,Xy])));done)))
   .intro _;(repeat' first|refine M.gw ?_|fail)
    rfl
theorem Yid(a:Int)(q:Pf)(ha:0<=a/\a<=20000)(qe:q.err=0)(qn:q.AG=true)(qh:q.AO=true):∀(n:Nat) (p:Pf) (v y:Int),p.full<=n->n<10000000000->0<=v->0<=y->v+2*p.size<=100000->y+2*p.size<=100000->p.shape=true->p.hx 549755813888->
 PC E 211 [.agg p.view,.i a,.i v,.i y,.agg q.view] (.agg (Pf.ph a q v y p).view):=by
 intro n;induction n with
 |zero=>intro p v y h;have:=p.Aa;omega
 |succ n ih=>
 intro p v y hsz hn h1 h2 h3 h4 hs hix;obtain⟨x1,x2⟩:=(Pf.A8 _ _).1 hix;obtain⟨nd,n1,n2,n3,n4,_⟩:=xr hs;obtain⟨_,s4,s5,s6⟩:=ze hs;have hsz':=p.Af;have hse:=p.size_eq;have hlen:=zd Pf.full Pf.Aa p.args;have b1:=L3 p.kind;have b2:=Q2 p.kind;have he:=Pf.EW a q v y p;by_cases hk:p.kind=1
 .obtain ⟨i,rfl⟩:=Wc hs hk;have hii:0<=i/\i<549755813888:=x1 hk;rw[if_pos hk] at he;have e2:(va i).index=i:=rfl;rw[e2] at he;rw[he];obtain⟨u1,u2⟩:=Sx (v:=v) (h:=a+y) qe qn qh (by omega) (by omega);obtain⟨g1,g2,g3⟩:=(Pf.Ad q).1 qe;have gf:=yj qe;have d1:=Rd (fr:=0) (n:=v) (C:=549755813888) h1 g1 g2 (Lr q g1 g2 0 qn) 0;have df:=IM _ d1.1;rw[d1.2.2.1] at df;have c1:=Yh4 v (by omega) _ q 0 0 (Wj _) (by omega) (by omega) (by omega) (by omega) g1 (Lr q g1 g2 0 qn);have c2:=Ygb (a+y) (by omega) _ (q.up 0 v 0) 0 0 (Wj _) (by omega) (by omega) (by omega) (by omega) d1.1 (Q6 _ 0 v q (MM q g1 0 qh) 0);rw[XO] at c1 c2;rw[u1];generalize (q.up 0 v 0).lh 0 (a+y) 0=Y at*;generalize q.up 0 v 0=X at*;clear ih he x2 u1 u2 d1 hsz' hse;by_cases h5:i-y=a
  .rw[if_pos h5];have h5':i=a+y:=by omega
   subst h5';unfold va;refine M.F Tryz.func211 ?_;(repeat' first|refine M.go ?_|refine M.c2 (c1) ?_|refine M.c2 (c2) ?_|refine M.z1 4 ?_|refine M.cs ?_ ?_<;>intro h|refine M.gk ?_|fail);all_goals first
    |rfl
    |(exfalso;simp at h;done)
    |(exfalso;simp at h;omega)
    |trace_state
  .rw[if_neg h5];by_cases h6:i-y>a
   .rw[if_pos h6];have hw:IntKind.i64.wrap (i-1)=i-1:=IntWalk.i64_in _ (by omega);unfold va;refine M.F Tryz.func211 ?_;(repeat' first|refine M.go ?_|refine M.z3 3 6 7 ?_|refine M.cs ?_ ?_<;>intro h|refine M.gk ?_|fail);all_goals first
     |rfl
     |exact congrArg (fun z=>V.agg [.i 1,.i z,.i 0,.s .ty [],.s .tm [],.s .fm [],.s .pf []]) hw
     |(exfalso;simp at h;omega)
     |trace_state
   .rw[if_neg h6];unfold va;refine M.F Tryz.func211 ?_;(repeat' first|refine M.go ?_|refine M.z3 3 5 7 ?_|refine M.cs ?_ ?_<;>intro h|refine M.gk ?_|fail);all_goals first
     |rfl
     |(exfalso;simp at h;omega)
     |trace_state
 rw[if_neg hk] at he;have hL:∀(m:Nat) (hm:m<p.args.length),∃g k,(0<=g/\g<=2)/\(0<=k/\k<=1)/\PC E 240 [.i p.kind,.i m] (.i g)/\PC E 237 [.i p.kind,.i m] (.i k)/\
  PC E 211 [.agg (p.args[m]).view,.i a,.i (v+g),.i (y+k),.agg q.view] (.agg (Pf.ph a q (if m+1=p.args.length then v+As p.kind else v) (if m+1=p.args.length then y+At p.kind else y) p.args[m]).view):=fun m hm=>by
  have hs2:=za Pf.full (Wi hm);have hs3:=za Pf.size (Wi hm);have hva:=Mh n1 m (by omega);have hbo:=Q1 n1 m (by omega);rw[<-n4] at hva hbo;refine⟨_,_,?_,?_,hva,hbo,?_⟩
  .split<;>omega
  .split<;>omega
  have hc:=ih p.args[m] (if m+1=p.args.length then v+As p.kind else v) (if m+1=p.args.length then y+At p.kind else y) (by omega) (by omega) (by split<;>omega) (by split<;>omega) (by split<;>omega) (by split<;>omega) (s6 _ (Wi hm)) (x2 hk _ (Wi hm));have ea:(if m+1=p.args.length then v+As p.kind else v)=v+(if m+1=p.args.length then As p.kind else 0):=by split<;>omega
  have eb:(if m+1=p.args.length then y+At p.kind else y)=y+(if m+1=p.args.length then At p.kind else 0):=by split<;>omega
  generalize Pf.ph a q (if m+1=p.args.length then v+As p.kind else v) (if m+1=p.args.length then y+At p.kind else y) p.args[m]=X at*;rw[ea,eb] at hc;exact hc
 clear ih;refine M.F Tryz.func211 ?_;(repeat' first|refine M.go ?_|refine M.z2 2 7 ?_|refine M.cs ?_ ?_<;>intro h|refine M.gk ?_|fail);all_goals first
  |(exfalso;simp at h;exact hk h)
  |skip
 (repeat' first|refine M.gw ?_|fail);refine AW.range p.args.length (fun m=>True)
  (fun m=>([(1,.i a),(2,.i v),(3,.i y),(5,.ptr 0 0),(9,.ptr 1 0),(10,.ptr 2 0),(11,.ptr 3 0),(44,.s .pf p.args),(45,.i p.args.length),(46,.i m)],⟨5,[(0,.var p.view),(1,.var q.view),(2,.var [.i 0,.i 0,.i 0,.slice .nil (.t .ty []),.slice .nil (.t .tm []),.slice .nil (.t .fm []),.slice .nil (.t .pf [])]),(3,.var [.i p.kind,.i p.index,.i p.ty.kind,.s .ty p.ty.args,.s .tm p.terms,.s .fm p.Ac,.slice (.own 4) (.t .pf ((Pf.DA a q v y (As p.kind) (At p.kind) p.args).take m))]),(4,.row)]⟩))
  (by omega) (fun m=>rfl) (fun m=>rfl) rfl trivial (M.W [some 0,some 1,some 2,some 3,none]) ?_ ?_
 .intro m hm _;obtain⟨g,k,hg,hk2,hva,hbo,hc⟩:=hL m hm;have et:=Uo (a:=a) (q:=q) (v:=v) (y:=y) (w:=As p.kind) (z:=At p.kind) hm;generalize Pf.ph a q (if m+1=p.args.length then v+As p.kind else v) (if m+1=p.args.length then y+At p.kind else y) p.args[m]=X at*;(repeat' first|refine M.gw ?_|refine M.c2 (hva) ?_|refine M.c2 (hbo) ?_|refine M.c2 (hc) ?_|fail);refine⟨rfl,trivial,?_⟩;simp only[<-et];exact(M.W [some 0,some 1,some 2,some 3,some 6])
 .intro _;simp only[R5];(repeat' first|refine M.gw ?_|fail);rw[he]
  rfl
theorem I5(p:Pf)(a:Int)(s:Tm)(hp:p.full<274877906944)(hs:s.full<274877906944):PC E 178 [.agg p.view,.i a,.agg s.view] (.AD [.agg (w9 p a s).view,.i (yu p a s)]):=by
 have h1:=v7 p (by omega);unfold w9;by_cases he:p.err=0;case neg=>
  rw[Ph he,if_neg he];refine M.F Tryz.func178 ?_;(repeat' first|refine M.go ?_|refine M.c2 (h1) ?_|refine M.z1 4 ?_|refine M.cs ?_ ?_<;>intro h|refine M.gk ?_|fail);all_goals first
   |rfl
   |(exfalso;simp at h;exact he h)
   |trace_state
 obtain⟨g1,g2,g3,g4,g5,g6⟩:=Jh he;rw[he] at h1;by_cases ha:0<=a/\a<=4096;case neg=>
  rw[QJ he ha,if_neg (by decide)];refine M.F Tryz.func178 ?_;(repeat' first|refine M.go ?_|refine M.c2 (h1) ?_|refine M.gs ?_ ?_<;>intro h|refine M.z1 6 ?_|refine M.cs ?_ ?_<;>intro h|refine M.gk ?_|fail);all_goals first
   |rfl
   |(exfalso;apply ha;simp at*;omega)
   |(exfalso;apply ha;simp_all;omega)
   |trace_state
 have h3:=wx s (by omega);by_cases es:s.err=0;case neg=>
  rw[Px he ha es,if_neg es];refine M.F Tryz.func178 ?_;(repeat' first|refine M.go ?_|refine M.c2 (h1) ?_|refine M.c2 (h3) ?_|refine M.gs ?_ ?_<;>intro h|refine M.z2 5 9 ?_|refine M.cs ?_ ?_<;>intro h|refine M.gk ?_|fail);all_goals first
   |rfl
   |(exfalso;simp at h;exact es h)
   |(exfalso;have:=of_decide_eq_false h;omega)
   |(exfalso;have:=of_decide_eq_true h;omega)
   |(exfalso;simp_all;omega)
   |trace_state
 have s1:=(Tm.Ad s).1 es;have s2:=z6 es;rw[es] at h3;have h4:=Pc _ p (Wj _) (by omega) g1;have h5:=KA 536870912 (by omega) _ s (Wj _) (by omega) s1.1;rw[<-Mc] at h5;by_cases hn:p.AG=false\/s.near=false
 .rw[L2 he ha es hn,if_neg (by decide)];cases hb:p.AG with
  |false=>
   rw[hb] at h4;refine M.F Tryz.func178 ?_;(repeat' first|refine M.go ?_|refine M.c2 (h1) ?_|refine M.c2 (h3) ?_|refine M.c2 (h4) ?_|refine M.gs ?_ ?_<;>intro h|refine M.z2 5 11 ?_|refine M.cs ?_ ?_<;>intro h|refine M.gk ?_|fail);all_goals first
    |rfl
    |(exfalso;simp at h;done)
    |(exfalso;have:=of_decide_eq_false h;omega)
    |(exfalso;have:=of_decide_eq_true h;omega)
    |(exfalso;simp_all;omega)
    |trace_state
  |true=>
   rw[hb] at h4;rw[hn.resolve_left (by simp[hb])] at h5;refine M.F Tryz.func178 ?_;(repeat' first|refine M.go ?_|refine M.c2 (h1) ?_|refine M.c2 (h3) ?_|refine M.c2 (h4) ?_|refine M.c2 (h5) ?_|refine M.gs ?_ ?_<;>intro h|refine M.z2 5 11 ?_|refine M.cs ?_ ?_<;>intro h|refine M.gk ?_|fail);all_goals first
    |rfl
    |(exfalso;simp at h;done)
    |(exfalso;have:=of_decide_eq_false h;omega)
    |(exfalso;have:=of_decide_eq_true h;omega)
    |(exfalso;simp_all;omega)
    |trace_state
 rw[Pw he ha es hn];have n1:p.AG=true:=by cases h:p.AG with|true=>rfl|false=>exact absurd (.inl h) hn
 have n2:s.near=true:=by cases h:s.near with|true=>rfl|false=>exact absurd (.inr h) hn
 rw[n1] at h4;rw[n2] at h5;have hix:=Lr p g1 g2 0 n1;have hnp:p.ix 274877906944:=Gs (UI p g1 n1) (by omega);have sp:=s.size_pos;have hG:=Tn a p g2 (by omega) 0;have h6:=M6 _ p (Wj _) (by omega);have h7:=Zu2 a (by omega) _ p 0 (Wj _) (by omega) (by omega) (by omega) (by omega) (by omega) g1 hnp;have h8:=yl _ s (Wj _) (by omega);rw[XO] at h7;have hbd:=TV a p 0;have hgn:=Yfd p.size s.size (FM p a s);have hps:=p.size_pos;unfold FM at hgn ⊢;have hm1:0<=vw (p.Cm (AR a) (AU a) 0)*((s.size:Int)-1):=Yy hbd.1 (by omega);have hm2:vw (p.Cm (AR a) (AU a) 0)*((s.size:Int)-1)<=1064960*4096:=Yz (by omega) (by omega) (by omega) (by omega);have e3:=Ya0 (s:=s) (a:=a) ha.1 s1.1 p g1 0 (by omega);have e4:=Yje (s:=s) (a:=a) ha.1 s1.1 p g1 0 (by omega);rw[show Fy s.size (p.Cm (AR a) (AU a) 0)=vw (p.Cm (AR a) (AU a) 0)*((s.size:Int)-1) by
  have:=We p.size s.size (p.Cm (AR a) (AU a) 0);omega] at e4
 have hc:=Yh7 a s (by omega) s1.1 (by omega) (fun q hq=>by have h:=Wm.1 n2 q hq;have:=s.AE s1.1 0 q hq;simp at h;omega) _ p 0 (Wj _) (by omega) (by omega) (by omega) g1 hnp;have hfl:=IM _ e4.1;have hcp:=fun(h:(p.pt a s 0).full<549755813888)=>Jj _ (p.pt a s 0) (Wj _) h;have hft:=fun(h:(p.pt a s 0).full<549755813888)=>L1 (p.pt a s 0) h;generalize C3 s.size (p.Cm (AR a) (AU a) 0)=B at*;generalize CD p.size s.size (p.Cm (AR a) (AU a) 0)=N at*;generalize p.pt a s 0=P at*;generalize vw (p.Cm (AR a) (AU a) 0)=T at*;clear hG hn hix hnp;have hsz1:(1:Int)<=s.size:=by omega
 generalize hZ:(s.size:Int)=Z at*;generalize hY:(p.size:Int)=Y at*;have w1:IntKind.i64.wrap (Z-1)=Z-1:=IntWalk.i64_in _ (by omega);have w2:IntKind.i64.wrap (T*(Z-1))=T*(Z-1):=IntWalk.i64_in _ (by omega);have w3:IntKind.i64.wrap (Y+T*(Z-1))=N:=by rw[hgn];exact IntWalk.i64_in _ (by omega)
 by_cases hN:N>16384
 .rw[if_pos (Or.inr hN),if_neg (by decide)];clear hcp hft;refine M.F Tryz.func178 ?_;(repeat' first|refine M.go ?_|refine M.c2 (h1) ?_|refine M.c2 (h3) ?_|refine M.c2 (h4) ?_|refine M.c2 (h5) ?_|refine M.c2 (h6) ?_|refine M.c2 (h7) ?_|refine M.c2 (h8) ?_|refine M.gs ?_ ?_<;>intro h|refine M.z3 5 10 13 ?_|refine M.cs ?_ ?_<;>intro h|refine M.gk ?_|fail);all_goals first
   |rfl
   |(exfalso;have:=of_decide_eq_false h;omega)
   |(exfalso;have:=of_decide_eq_true h;omega)
   |(exfalso;simp_all;omega)
   |trace_state
 .have hft:=hft (by omega);have hcp:=hcp (by omega);rw[e3,decide_eq_true (show P.size<=16384 by omega),Zv] at hft;cases B with
  |true=>
   rw[if_pos (Or.inl rfl),if_neg (by decide)];refine M.F Tryz.func178 ?_;(repeat' first|refine M.go ?_|refine M.c2 (h1) ?_|refine M.c2 (h3) ?_|refine M.c2 (h4) ?_|refine M.c2 (h5) ?_|refine M.c2 (h6) ?_|refine M.c2 (h7) ?_|refine M.c2 (h8) ?_|refine M.c2 (hc) ?_|refine M.c2 (hft) ?_|refine M.gs ?_ ?_<;>intro h|refine M.z3 5 10 12 ?_|refine M.cs ?_ ?_<;>intro h|refine M.gk ?_|fail);all_goals first
    |rfl
    |(exfalso;have:=of_decide_eq_false h;omega)
    |(exfalso;have:=of_decide_eq_true h;omega)
    |(exfalso;simp_all;omega)
    |trace_state
  |false=>
   rw[if_neg (show ¬(false=true\/N>16384) by simp;omega),if_pos rfl];refine M.F Tryz.func178 ?_;(repeat' first|refine M.go ?_|refine M.c2 (h1) ?_|refine M.c2 (h3) ?_|refine M.c2 (h4) ?_|refine M.c2 (h5) ?_|refine M.c2 (h6) ?_|refine M.c2 (h7) ?_|refine M.c2 (h8) ?_|refine M.c2 (hc) ?_|refine M.c2 (hft) ?_|refine M.c2 (hcp) ?_|refine M.gs ?_ ?_<;>intro h|refine M.z3 5 10 12 ?_|refine M.cs ?_ ?_<;>intro h|refine M.gk ?_|fail);all_goals first
    |rfl
    |(exfalso;have:=of_decide_eq_false h;omega)
    |(exfalso;have:=of_decide_eq_true h;omega)
    |(exfalso;simp_all;omega)
    |trace_state
theorem KD(p:Pf)(a:Int)(q:Pf)(hp:p.full<274877906944)(hq:q.full<274877906944):PC E 177 [.agg p.view,.i a,.agg q.view] (.AD [.agg (DY p a q).view,.i (wz p a q)]):=by
 have h1:=v7 p (by omega);unfold DY;by_cases he:p.err=0;case neg=>
  rw[QC he,if_neg he];refine M.F Tryz.func177 ?_;(repeat' first|refine M.go ?_|refine M.c2 (h1) ?_|refine M.z1 4 ?_|refine M.cs ?_ ?_<;>intro h|refine M.gk ?_|fail);all_goals first
   |rfl
   |(exfalso;simp at h;exact he h)
   |trace_state
 obtain⟨g1,g2,g3,g4,g5,g6⟩:=Jh he;rw[he] at h1;by_cases ha:0<=a/\a<=16384;case neg=>
  rw[Qa he ha,if_neg (by decide)];refine M.F Tryz.func177 ?_;(repeat' first|refine M.go ?_|refine M.c2 (h1) ?_|refine M.gs ?_ ?_<;>intro h|refine M.z1 6 ?_|refine M.cs ?_ ?_<;>intro h|refine M.gk ?_|fail);all_goals first
   |rfl
   |(exfalso;apply ha;simp at*;omega)
   |(exfalso;apply ha;simp_all;omega)
   |trace_state
 have h3:=v7 q (by omega);by_cases es:q.err=0;case neg=>
  rw[Pu he ha es,if_neg es];by_cases hpq:p=q
  .subst hpq;exact absurd he es
  refine M.F Tryz.func177 ?_;(repeat' first|refine M.go ?_|refine M.c2 (h1) ?_|refine M.c2 (h3) ?_|refine M.gs ?_ ?_<;>intro h|refine M.z2 5 9 ?_|refine M.cs ?_ ?_<;>intro h|refine M.gk ?_|fail);all_goals first
   |rfl
   |(exfalso;simp at h;exact es h)
   |(exfalso;have:=of_decide_eq_false h;omega)
   |(exfalso;have:=of_decide_eq_true h;omega)
   |(exfalso;simp_all;omega)
   |trace_state
 obtain⟨s1,s2,s3,s4,s5,s6⟩:=Jh es;rw[es] at h3;have h4:=NW 1 _ p (Wj _) (by omega);have h5:=NW 1 _ q (Wj _) (by omega);have h6:=Pc _ q (Wj _) (by omega) s1;rw[<-U4] at h4 h5;by_cases hn:p.AO=false\/q.AO=false\/q.AG=false
 .rw[OC he ha es hn,if_neg (by decide)];cases hb:p.AO with
  |false=>
   rw[hb] at h4;refine M.F Tryz.func177 ?_;(repeat' first|refine M.go ?_|refine M.c2 (h1) ?_|refine M.c2 (h3) ?_|refine M.c2 (h4) ?_|refine M.gs ?_ ?_<;>intro h|refine M.z2 5 11 ?_|refine M.cs ?_ ?_<;>intro h|refine M.gk ?_|fail);all_goals first
    |rfl
    |(exfalso;simp at h;done)
    |(exfalso;have:=of_decide_eq_false h;omega)
    |(exfalso;have:=of_decide_eq_true h;omega)
    |(exfalso;simp_all;omega)
    |trace_state
  |true=>
   rw[hb] at h4;cases hb2:q.AO with
   |false=>
    rw[hb2] at h5;refine M.F Tryz.func177 ?_;(repeat' first|refine M.go ?_|refine M.c2 (h1) ?_|refine M.c2 (h3) ?_|refine M.c2 (h4) ?_|refine M.c2 (h5) ?_|refine M.gs ?_ ?_<;>intro h|refine M.z2 5 11 ?_|refine M.cs ?_ ?_<;>intro h|refine M.gk ?_|fail);all_goals first
     |rfl
     |(exfalso;simp at h;done)
     |(exfalso;simp_all;omega)
     |trace_state
   |true=>
    rw[hb2] at h5;rw[(hn.resolve_left (by simp[hb])).resolve_left (by simp[hb2])] at h6;refine M.F Tryz.func177 ?_;(repeat' first|refine M.go ?_|refine M.c2 (h1) ?_|refine M.c2 (h3) ?_|refine M.c2 (h4) ?_|refine M.c2 (h5) ?_|refine M.c2 (h6) ?_|refine M.gs ?_ ?_<;>intro h|refine M.z2 5 11 ?_|refine M.cs ?_ ?_<;>intro h|refine M.gk ?_|fail);all_goals first
     |rfl
     |(exfalso;simp at h;done)
     |(exfalso;simp_all;omega)
     |trace_state
 rw[O9 he ha es hn];have n1:p.AO=true:=by cases h:p.AO with|true=>rfl|false=>exact absurd (.inl h) hn
 have n2:q.AO=true:=by cases h:q.AO with|true=>rfl|false=>exact absurd (.inr (.inl h)) hn
 have n3:q.AG=true:=by cases h:q.AG with|true=>rfl|false=>exact absurd (.inr (.inr h)) hn
 rw[n1] at h4;rw[n2] at h5;rw[n3] at h6;have hx:=MM p g1 0 n1;have h7:=M6 _ p (Wj _) (by omega);have h8:=M6 _ q (Wj _) (by omega);have h9:=Ztr a (by omega) _ p 0 (Wj _) (by omega) (by omega) (by omega) g1;rw[XO] at h9;have hbd:=UA (Vx a) p 0;have hc:=Yid a q (by omega) es n3 n2 _ p 0 0 (Wj _) (by omega) (by omega) (by omega) (by omega) (by omega) g1 hx;have hps:=p.size_pos;have hqs:=q.size_pos;unfold E3;have hm1:0<=(((p.Cv (vj a) 0).length:Nat):Int)*((q.size:Int)-1):=Yy (by omega) (by omega);have hm2:(((p.Cv (vj a) 0).length:Nat):Int)*((q.size:Int)-1)<=1064960*16384:=Yz (by omega) (by omega) (by omega) (by omega);have hfull:=Zz1 a q p 0 0;have hfull2:p.size*q.full<=16384*1064960:=XU g3 s5;have hcp:=fun(h:(Pf.ph a q 0 0 p).full<549755813888)=>Jj _ (Pf.ph a q 0 0 p) (Wj _) h;generalize Pf.ph a q 0 0 p=P at*;generalize hT:(((p.Cv (vj a) 0).length:Nat):Int)=T at*;generalize hZ:(q.size:Int)=Z at*;generalize hY:(p.size:Int)=Y at*;have w1:IntKind.i64.wrap (Z-1)=Z-1:=IntWalk.i64_in _ (by omega);have w2:IntKind.i64.wrap (T*(Z-1))=T*(Z-1):=IntWalk.i64_in _ (by omega);have w3:IntKind.i64.wrap (Y+T*(Z-1))=Y+T*(Z-1):=IntWalk.i64_in _ (by omega);by_cases hN:Y+T*(Z-1)>16384
 .rw[if_pos hN,if_neg (by decide)];clear hcp hfull hfull2;refine M.F Tryz.func177 ?_;(repeat' first|refine M.go ?_|refine M.c2 (h1) ?_|refine M.c2 (h3) ?_|refine M.c2 (h4) ?_|refine M.c2 (h5) ?_|refine M.c2 (h6) ?_|refine M.c2 (h7) ?_|refine M.c2 (h8) ?_|refine M.c2 (h9) ?_|refine M.gs ?_ ?_<;>intro h|refine M.z3 5 10 13 ?_|refine M.cs ?_ ?_<;>intro h|refine M.gk ?_|fail);all_goals first
   |rfl
   |(exfalso;have:=of_decide_eq_false h;omega)
   |(exfalso;have:=of_decide_eq_true h;omega)
   |(exfalso;simp_all;omega)
   |trace_state
 .have hcp:=hcp (by omega);rw[if_neg hN,if_pos rfl];refine M.F Tryz.func177 ?_;(repeat' first|refine M.go ?_|refine M.c2 (h1) ?_|refine M.c2 (h3) ?_|refine M.c2 (h4) ?_|refine M.c2 (h5) ?_|refine M.c2 (h6) ?_|refine M.c2 (h7) ?_|refine M.c2 (h8) ?_|refine M.c2 (h9) ?_|refine M.c2 (hc) ?_|refine M.c2 (hcp) ?_|refine M.gs ?_ ?_<;>intro h|refine M.z3 5 10 12 ?_|refine M.cs ?_ ?_<;>intro h|refine M.gk ?_|fail);all_goals first
   |rfl
   |(exfalso;have:=of_decide_eq_false h;omega)
   |(exfalso;have:=of_decide_eq_true h;omega)
   |(exfalso;simp_all;omega)
   |trace_state
end Go.Ab
