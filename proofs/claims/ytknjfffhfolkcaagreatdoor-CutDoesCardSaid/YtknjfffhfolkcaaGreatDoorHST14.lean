/- A part of this seat's proofs. No conditions. -/
import Derived.Test.YtknjfffhfolkcaaGreatDoorHST13
namespace Go.Ab
open Go Go.Proofs
set_option maxRecDepth 100000
set_option maxHeartbeats 4000000
set_option linter.all false
theorem Sd(p:Pf)(hf:p.full<100000000000)(hs:p.shape=true):PC E 58 [.agg p.view] (.bool p.BB):=by
 have h1:=Pc _ p (Wj _) (by omega) hs;have h2:=NW 1 _ p (Wj _) (by omega);have h3:=NW 2 _ p (Wj _) (by omega);rw[RJ];generalize p.AG=a at*;generalize p.CZ 1=b at*;generalize p.CZ 2=c at*;cases a<;>cases b<;>cases c;all_goals
  refine M.F Tryz.func58 ?_;(repeat' first|refine M.gw ?_|refine M.c2 (h1) ?_|refine M.c2 (h2) ?_|refine M.c2 (h3) ?_|fail)
 all_goals first
  |rfl
  |trace_state
theorem Ya7(p:Pf)(hf:p.full<100000000000):PC E 13 [.agg p.view] (.AD [.bool (decide (p.err=0)&&xl p),.i p.err]):=by
 have h1:=v7 p (by omega);by_cases he:p.err=0
 .have h2:=S1 p ((Pf.Ad p).1 he).1;rw[he] at h1 ⊢;generalize xl p=b at*;refine M.F Tryz.func13 ?_;(repeat' first|refine M.gw ?_|refine M.c2 (h1) ?_|refine M.c2 (h2) ?_|fail)
  rfl
 .rw[decide_eq_false he,Xo];refine M.F Tryz.func13 ?_;(repeat' first|refine M.gw ?_|refine M.c2 (h1) ?_|refine M.cs ?_ ?_<;>intro h|fail);all_goals first
   |rfl
   |(exfalso;simp at h;exact he h)
   |trace_state
theorem Yd0(p:Pf)(hf:p.full<900000000):PC E 15 [.agg p.view] (.AD [.agg (FJ p).1.view,.bool (FJ p).2.1,.i (FJ p).2.2]):=by
 have h1:=v7 p (by omega);unfold FJ;by_cases he:p.err=0;case neg=>
  rw[if_pos he];refine M.F Tryz.func15 ?_;(repeat' first|refine M.go ?_|refine M.c2 (h1) ?_|refine M.z1 4 ?_|refine M.cs ?_ ?_<;>intro h|refine M.gk ?_|fail);all_goals first
   |rfl
   |(exfalso;simp at h;exact he h)
   |trace_state
 rw[if_neg (by simp[he])];have hs:=((Pf.Ad p).1 he).1;have h2:=Sd p (by omega) hs;rw[he] at h1;by_cases hn:p.BB=false
 .rw[if_pos hn];rw[hn] at h2;refine M.F Tryz.func15 ?_;(repeat' first|refine M.gw ?_|refine M.c2 (h1) ?_|refine M.c2 (h2) ?_|fail)
  rfl
 rw[if_neg hn];rw[XF] at hn;rw[hn] at h2;have h3:=TJ p hf he (Gs (SY he hn).ix (by omega));have hx:(if(yn p).2.2≠0 then((BM,false,(yn p).2.2):Pf×Bool×Int) else yn p)=yn p:=by
  split
  .next h=>
   unfold yn at h ⊢;split at h
   .next h'=>rw[if_pos h']
   .exact absurd rfl h
  .rfl
 rw[hx];have hfull:(yn p).1.full<2000000000:=by
  unfold yn;split
  .simp only[y5];omega
  .have:=ON p;simp only;omega
 have h4:=Jj _ (yn p).1 (Wj _) (by omega);generalize yn p=R at*;obtain⟨u,f,e⟩:=R;simp only at h3 h4 ⊢;refine M.F Tryz.func15 ?_;(repeat' first|refine M.gw ?_|refine M.c2 (h1) ?_|refine M.c2 (h2) ?_|refine M.c2 (h3) ?_|refine M.c2 (h4) ?_|fail)
 rfl
theorem Zoy(p:Pf)(s:Int)(hf:p.full<900000000)(hsb: -9223372036854775808<=s/\s<=9223372036854775807):PC E 19 [.agg p.view,.i s] (.AD [.agg (Gd p s).1.view,.i (Gd p s).2.1,.i (Gd p s).2.2]):=by
 have h1:=v7 p (by omega);unfold Gd;by_cases he:p.err=0;case neg=>
  rw[if_pos he];refine M.F Tryz.func19 ?_;(repeat' first|refine M.go ?_|refine M.c2 (h1) ?_|refine M.z1 4 ?_|refine M.cs ?_ ?_<;>intro h|refine M.gk ?_|fail);all_goals first
   |rfl
   |(exfalso;simp at h;exact he h)
   |trace_state
 rw[if_neg (by simp[he])];have hs:=((Pf.Ad p).1 he).1;have h2:=Sd p (by omega) hs;rw[he] at h1;by_cases hb:s<0\/s>65536\/p.BB=false
 .rw[if_pos hb];cases hn:p.BB with
  |false=>
   rw[hn] at h2;refine M.F Tryz.func19 ?_;(repeat' first|refine M.go ?_|refine M.c2 (h1) ?_|refine M.c2 (h2) ?_|refine M.gs ?_ ?_<;>intro h|refine M.z1 6 ?_|refine M.gk ?_|fail);all_goals first
    |rfl
    |(exfalso;simp at h;done)
    |(exfalso;simp_all;omega)
    |trace_state
  |true=>
   rw[hn] at h2;have hb2:s<0\/s>65536:=by
    rcases hb with h|h|h
    .exact .inl h
    .exact .inr h
    .rw[hn] at h;cases h
   refine M.F Tryz.func19 ?_;(repeat' first|refine M.go ?_|refine M.c2 (h1) ?_|refine M.c2 (h2) ?_|refine M.gs ?_ ?_<;>intro h|refine M.z1 6 ?_|refine M.gk ?_|fail);all_goals first
    |rfl
    |(exfalso;simp at h;done)
    |(exfalso;simp_all;omega)
    |trace_state
 rw[if_neg hb];have b1:¬s<0:=fun h=>hb (.inl h);have b2:¬s>65536:=fun h=>hb (.inr (.inl h));have b3:p.BB=true:=by cases e:p.BB with|true=>rfl|false=>exact absurd (.inr (.inr e)) hb
 rw[b3] at h2;have hib:=SY he b3;refine M.F Tryz.func19 ?_;(repeat' first|refine M.go ?_|refine M.c2 (h1) ?_|refine M.c2 (h2) ?_|refine M.gs ?_ ?_<;>intro h|refine M.z2 5 6 ?_|refine M.gk ?_|fail);all_goals first
  |(exfalso;simp at h;done)
  |(exfalso;simp_all;omega)
  |skip
 (repeat' first|refine M.gw ?_|fail);obtain⟨R,hR⟩:∃R,R=FH s.toNat p 0:=⟨_,rfl⟩;rw[<-hR];refine AW.block (AW.loop (ι:={x:Pf×Nat // x.1.err=0/\(x.2:Int)<=s/\FH (s-x.2).toNat x.1 x.2=R/\Ib (536870913+1000000*x.2) x.1})
  (fun x=>([(1,.i s),(2,.ptr 0 0),(4,.ptr 1 0),(8,.i x.1.2)],⟨2,[(0,.var x.1.1.view),(1,.var [.i 0,.i 0,.i 0,.slice .nil (.t .ty []),.slice .nil (.t .tm []),.slice .nil (.t .fm []),.slice .nil (.t .pf [])])]⟩))
  (fun x=>(s-x.1.2).toNat) ⟨(p,0),he,by simp only;omega,by rw[hR];simp,by simpa using hib⟩ (M.W [some 0,some 1]) fun⟨⟨q,n⟩,qe,qn,qR,qi⟩=> ?_)
 simp only at qe qn qR qi;have qf:=yj qe;have qs:=((Pf.Ad q).1 qe).1;have d2:=Jj _ q (Wj _) (by omega);have d3:=TJ q (by omega) qe (Gs qi.ix (by omega));have hst:= @Zo3 q;have hsd:= @Znw q;have hsi:=fun h=>Ycj (C:=536870913+1000000*n) (by omega) (by omega) qe qi h;by_cases hns:(n:Int)=s
 .rw[show(s-(n:Int)).toNat=0 by omega] at qR;unfold FH at qR;clear hsi;cases hd:q.direct with
  |true=>
   rw[hst hd qe] at d3;rw[hd,if_pos rfl] at qR;(repeat' first|refine M.gw ?_|refine M.c2 (d3) ?_|refine M.c2 (d2) ?_|refine M.zb ?_|fail);all_goals first|exfalso;simp at h;done|exfalso;simp at h;omega|(subst qR;rfl)
  |false=>
   rw[hd,if_neg (by simp)] at qR;have hno:¬((yn q).2.2=0/\(yn q).2.1=false):=fun h=>by have:=hsd h.1 h.2;rw[hd] at this;cases this
   clear hst hsd;generalize yn q=T at*;obtain⟨u,f,e⟩:=T;simp only at d3 hno;have hnb:((n:Int)==s)=true:=by simp[hns]
   (repeat' first|refine M.go ?_|refine M.c2 (d3) ?_|refine M.gs ?_ ?_<;>intro h|refine M.z2 11 13 ?_|refine M.zb ?_|refine M.cs ?_ ?_<;>intro h|refine M.gk ?_|fail);all_goals first
    |(exfalso;apply hno;simp_all;done)
    |skip
   all_goals
    (repeat' first|refine M.gw ?_|refine M.cs ?_ ?_<;>intro h|fail)
   all_goals first|exfalso;simp at h;omega|(subst qR;rfl)|exfalso;simp_all;done
 .obtain ⟨k,hk⟩:∃k,(s-(n:Int)).toNat=k+1:=⟨(s-(n:Int)).toNat-1,by omega⟩;rw[hk] at qR;unfold FH at qR;have e3:= @H9 q;have hnb:((n:Int)==s)=false:=by simp[hns]
  clear hst hsd;by_cases h0:(yn q).2.2=0;case neg=>
   rw[if_pos h0] at qR;clear e3 hsi;generalize yn q=T at*;obtain⟨u,f,e⟩:=T;simp only at d3 h0 qR;(repeat' first|refine M.go ?_|refine M.c2 (d3) ?_|refine M.gs ?_ ?_<;>intro h|refine M.z3 11 13 15 ?_|refine M.zb ?_|refine M.cs ?_ ?_<;>intro h|refine M.gk ?_|fail);all_goals first
    |(exfalso;simp_all;done)
    |skip
   all_goals
    (repeat' first|refine M.go ?_|refine M.z1 15 ?_|refine M.cs ?_ ?_<;>intro h|refine M.gk ?_|fail)
   all_goals first|exfalso;simp at h;omega|exfalso;simp at h;exact h0 h|(subst qR;rfl)
  rw[if_neg (by simp[h0])] at qR;obtain⟨_,e4,_,e5⟩:=e3 h0;have hs2:=hsi h0;clear hsi;rw[<-e4] at e5;generalize yn q=T at*;obtain⟨u,f,e⟩:=T;simp only at d3 h0 qR e5 hs2;subst h0;cases f with
  |false=>
   rw[if_pos rfl] at qR;(repeat' first|refine M.gw ?_|refine M.c2 (d3) ?_|refine M.c2 (d2) ?_|refine M.zb ?_|fail);all_goals first|exfalso;simp at h;done|exfalso;simp at h;omega|(subst qR;rfl)
  |true=>
   rw[if_neg (by simp)] at qR;(repeat' first|refine M.gw ?_|refine M.c2 (d3) ?_|refine M.zb ?_|refine M.cs ?_ ?_<;>intro h|fail);all_goals first
    |(exfalso;simp at h;done)
    |(exfalso;simp at h;omega)
    |skip
   have hw:IntKind.i64.wrap ((n:Int)+1)=((n+1:Nat):Int):=by rw[IntWalk.i64_in _ (by omega)];omega
   refine⟨⟨(u,n+1),e5,by simp only;omega,?_,?_⟩,?_,?_⟩
   .simp only;rw[show(s-((n+1:Nat):Int)).toNat=k by omega,show((n+1:Nat):Int)=(n:Int)+1 by omega];exact qR
   .simp only;exact hs2.mono (by omega)
   .simp only;omega
   .simp only[hw];exact(M.W [some 0,some 1])
theorem Yea:∀(b:Nat) (t:Pf) (most:Int),t.full<=b->-100<=most/\most<=1000000000->PC E 23 [.agg t.view,.i most] (.i (t.cn most)):=by
 intro b;induction b with
 |zero=>intro t most h;have:=t.Aa;omega
 |succ b ih=>
 intro t most hsz hm;have hsz':=t.Af;have he:=Pf.CN most t;have hbt:=t.ty.BR (most-1);have h1:=OV _ t.ty (most-1) (Wj _) (by omega);refine M.F Tryz.func23 ?_;(repeat' first|refine M.gw ?_|refine M.c2 (h1) ?_|fail);generalize hn0:1+t.ty.cn (most-1)=n0 at*;have hn1:2<=n0/\(n0<=2\/n0<=most+1):=by omega
 have hall:=Tm.DJ most t.terms n0;clear hbt h1 hn0;refine AW.Gz (ι:=Unit) (fun _=>([(1,.i most),(2,.ptr 0 0),(5,.i (Tm.Av most n0 t.terms))],⟨1,[(0,.var t.view)]⟩)) ?_ ?_
 .refine AW.block (AW.upto t.terms.length (fun i=>(i:Int)<Tm.Av most n0 (t.terms.take i)/\(Tm.Av most n0 (t.terms.take i)<=2\/Tm.Av most n0 (t.terms.take i)<=most+2))
   (fun i=>([(1,.i most),(2,.ptr 0 0),(5,.i (Tm.Av most n0 (t.terms.take i))),(6,.i i)],⟨1,[(0,.var t.view)]⟩))
   ⟨by simp[Tm.Av];omega,by simp[Tm.Av];omega⟩ (M.W [some 0]) fun i hi hP=> ?_)
  obtain⟨p1,p2⟩:=hP;by_cases hlt:i<t.terms.length
  .by_cases hle:Tm.Av most n0 (t.terms.take i)<=most
   .have htk:=Tm.BN hlt hle;have hs2:=za Tm.full (Wi hlt);have hx:=t.terms[i].BR (most-Tm.Av most n0 (t.terms.take i));have hc:=T8 _ t.terms[i] (most-Tm.Av most n0 (t.terms.take i)) (Wj _) (by omega);(repeat' first|refine M.go ?_|refine M.gs ?_ ?_<;>intro h|refine M.z1 5 ?_|refine M.cs ?_ ?_<;>intro h|refine M.gk ?_|fail);all_goals first
     |(exfalso;simp at h;omega)
     |(exfalso;simp at*;omega)
     |skip
    refine K.sq (AW.block ?_);(repeat' first|refine M.gw ?_|refine M.c2 (hc) ?_|fail);refine⟨hlt,(show((i+1:Nat):Int)<Tm.Av most n0 (t.terms.take (i+1))/\(Tm.Av most n0 (t.terms.take (i+1))<=2\/Tm.Av most n0 (t.terms.take (i+1))<=most+2) by omega),?_⟩;simp only[htk];exact(M.W [some 0])
   .have e:=Tm.B2 hle;rw[<-e];(repeat' first|refine M.go ?_|refine M.gs ?_ ?_<;>intro h|refine M.z1 5 ?_|refine M.cs ?_ ?_<;>intro h|refine M.gk ?_|fail);all_goals first
     |(exfalso;simp at*;omega)
     |(exfalso;simp at*;rw[e] at*;omega)
     |exact⟨(),(M.W [some 0])⟩
  .have e:t.terms.take i=t.terms:=Xn (by omega);rw[e];(repeat' first|refine M.go ?_|refine M.gs ?_ ?_<;>intro h|refine M.z1 5 ?_|refine M.cs ?_ ?_<;>intro h|refine M.gk ?_|fail);all_goals first
    |(exfalso;simp at*;omega)
    |exact⟨(),(M.W [some 0])⟩
 intro _;generalize Tm.Av most n0 t.terms=n1 at*;have hn2:2<=n1/\(n1<=2\/n1<=most+2):=by omega
 clear hall hn1;have hall:=Fm.Eh most t.Ac n1;(repeat' first|refine M.gw ?_|fail);refine AW.Gz (ι:=Unit) (fun _=>([(1,.i most),(2,.ptr 0 0),(5,.i (Fm.Av most n1 t.Ac))],⟨1,[(0,.var t.view)]⟩)) ?_ ?_
 .refine AW.block (AW.upto t.Ac.length (fun i=>(i:Int)<Fm.Av most n1 (t.Ac.take i)/\(Fm.Av most n1 (t.Ac.take i)<=2\/Fm.Av most n1 (t.Ac.take i)<=most+2))
   (fun i=>([(1,.i most),(2,.ptr 0 0),(5,.i (Fm.Av most n1 (t.Ac.take i))),(7,.i i)],⟨1,[(0,.var t.view)]⟩))
   ⟨by simp[Fm.Av];omega,by simp[Fm.Av];omega⟩ (M.W [some 0]) fun i hi hP=> ?_)
  obtain⟨p1,p2⟩:=hP;by_cases hlt:i<t.Ac.length
  .by_cases hle:Fm.Av most n1 (t.Ac.take i)<=most
   .have htk:=Fm.BN hlt hle;have hs2:=za Fm.full (Wi hlt);have hx:=t.Ac[i].BR (most-Fm.Av most n1 (t.Ac.take i));have hc:=Yeo _ t.Ac[i] (most-Fm.Av most n1 (t.Ac.take i)) (Wj _) (by omega);(repeat' first|refine M.go ?_|refine M.gs ?_ ?_<;>intro h|refine M.z1 9 ?_|refine M.cs ?_ ?_<;>intro h|refine M.gk ?_|fail);all_goals first
     |(exfalso;simp at h;omega)
     |(exfalso;simp at*;omega)
     |skip
    refine K.sq (AW.block ?_);(repeat' first|refine M.gw ?_|refine M.c2 (hc) ?_|fail);refine⟨hlt,(show((i+1:Nat):Int)<Fm.Av most n1 (t.Ac.take (i+1))/\(Fm.Av most n1 (t.Ac.take (i+1))<=2\/Fm.Av most n1 (t.Ac.take (i+1))<=most+2) by omega),?_⟩;simp only[htk];exact(M.W [some 0])
   .have e:=Fm.B2 hle;rw[<-e];(repeat' first|refine M.go ?_|refine M.gs ?_ ?_<;>intro h|refine M.z1 9 ?_|refine M.cs ?_ ?_<;>intro h|refine M.gk ?_|fail);all_goals first
     |(exfalso;simp at*;omega)
     |(exfalso;simp at*;rw[e] at*;omega)
     |exact⟨(),(M.W [some 0])⟩
  .have e:t.Ac.take i=t.Ac:=Xn (by omega);rw[e];(repeat' first|refine M.go ?_|refine M.gs ?_ ?_<;>intro h|refine M.z1 9 ?_|refine M.cs ?_ ?_<;>intro h|refine M.gk ?_|fail);all_goals first
    |(exfalso;simp at*;omega)
    |exact⟨(),(M.W [some 0])⟩
 intro _;generalize Fm.Av most n1 t.Ac=n2 at*;have hn3:2<=n2/\(n2<=2\/n2<=most+2):=by omega
 clear hall hn2;(repeat' first|refine M.gw ?_|fail);refine AW.block (AW.upto t.args.length (fun i=>(i:Int)<Pf.Av most n2 (t.args.take i)/\(Pf.Av most n2 (t.args.take i)<=2\/Pf.Av most n2 (t.args.take i)<=most+2))
  (fun i=>([(1,.i most),(2,.ptr 0 0),(5,.i (Pf.Av most n2 (t.args.take i))),(8,.i i)],⟨1,[(0,.var t.view)]⟩))
  ⟨by simp[Pf.Av];omega,by simp[Pf.Av];omega⟩ (M.W [some 0]) fun i hi hP=> ?_)
 obtain⟨p1,p2⟩:=hP;by_cases hlt:i<t.args.length
 .by_cases hle:Pf.Av most n2 (t.args.take i)<=most
  .have htk:=Pf.BN hlt hle;have hs2:=za Pf.full (Wi hlt);have hx:=t.args[i].BR (most-Pf.Av most n2 (t.args.take i));have hc:=ih t.args[i] (most-Pf.Av most n2 (t.args.take i)) (by omega) (by omega);(repeat' first|refine M.go ?_|refine M.gs ?_ ?_<;>intro h|refine M.z1 13 ?_|refine M.cs ?_ ?_<;>intro h|refine M.gk ?_|fail);all_goals first
    |(exfalso;simp at h;omega)
    |(exfalso;simp at*;omega)
    |skip
   refine K.sq (AW.block ?_);(repeat' first|refine M.gw ?_|refine M.c2 (hc) ?_|fail);refine⟨hlt,(show((i+1:Nat):Int)<Pf.Av most n2 (t.args.take (i+1))/\(Pf.Av most n2 (t.args.take (i+1))<=2\/Pf.Av most n2 (t.args.take (i+1))<=most+2) by omega),?_⟩;simp only[htk];exact(M.W [some 0])
  .have e:=Pf.B2 hle;(repeat' first|refine M.go ?_|refine M.gs ?_ ?_<;>intro h|refine M.z1 13 ?_|refine M.cs ?_ ?_<;>intro h|refine M.gk ?_|fail);all_goals first|exfalso;simp at*;omega|(rw[he,e];rfl)
 .have e:t.args.take i=t.args:=Xn (by omega);rw[e];(repeat' first|refine M.go ?_|refine M.gs ?_ ?_<;>intro h|refine M.z1 13 ?_|refine M.cs ?_ ?_<;>intro h|refine M.gk ?_|fail);all_goals first|exfalso;simp at*;omega|(rw[he];rfl)
theorem Ybe:∀(n:Nat) (p:Pf),p.full<=n->n<1099511627776->p.shape=true->PC E 64 [.agg p.view] (.bool p.direct):=by
 intro n;induction n with
 |zero=>intro p h;have:=p.Aa;omega
 |succ n ih=>
 intro p hsz hn hs;have hsz':=p.Af;have hlen:=zd Pf.full Pf.Aa p.args;have h1:=Qm p (Pp hs);obtain⟨_,_,_,s6⟩:=ze hs;by_cases hr:xl p=true
 .rw[Pf.CO,if_pos hr];rw[hr] at h1;refine M.F Tryz.func64 ?_;(repeat' first|refine M.gw ?_|refine M.c2 (h1) ?_|fail)
  rfl
 rw[X4] at hr;rw[Pf.CO,if_neg (by simp[hr]),NN];rw[hr] at h1;refine M.F Tryz.func64 ?_;(repeat' first|refine M.gw ?_|refine M.c2 (h1) ?_|fail);refine AW.range p.args.length (fun m=>∀i (hi:i<p.args.length),i<m->p.args[i].direct=true) (fun m=>([(8,.s .pf p.args),(9,.i p.args.length),(10,.i m)],⟨1,[(0,.var p.view)]⟩))
  (by omega) (fun m=>rfl) (fun m=>rfl) rfl (fun i _ h=>by omega) (M.W [some 0]) ?_ ?_
 .intro m hm hP;have hs2:=za Pf.full (Wi hm);have hc:=ih p.args[m] (by omega) (by omega) (s6 _ (Wi hm));cases hd:p.args[m].direct with
  |false=>
   rw[hd] at hc;rw[show p.args.all Pf.direct=false from List.all_eq_false.2 ⟨_,Wi hm,by simp[hd]⟩];(repeat' first|refine M.gw ?_|refine M.c2 (hc) ?_|fail)
   rfl
  |true=>
   rw[hd] at hc;(repeat' first|refine M.gw ?_|refine M.c2 (hc) ?_|fail);exact⟨rfl,fun i hi him=>by
    by_cases e:i=m
    .subst e;exact hd
    .exact hP i hi (by omega),(M.W [some 0])⟩
 .intro hP;rw[show p.args.all Pf.direct=true from Wm.2 fun x hx=>by
   obtain⟨i,hi,rfl⟩:=WT hx;exact hP i hi hi]
  (repeat' first|refine M.gw ?_|fail)
  rfl
theorem Zzn:∀(n:Nat) (p:Pf),p.full<=n->n<1000000000->p.shape=true->PC E 96 [.agg p.view] (.AD [.agg p.nx.1.view,.bool p.nx.2.1,.i p.nx.2.2]):=by
 intro n;induction n with
 |zero=>intro p h;have:=p.Aa;omega
 |succ n ih=>
 intro p hsz hn hs;have hsz':=p.Af;have hlen:=zd Pf.full Pf.Aa p.args;have h1:=Qm p (Pp hs);obtain⟨_,_,_,s6⟩:=ze hs;by_cases hr:xl p=true
 .have h2:=Zzw p hs (by omega) hr;rw[Pf.CF,if_pos hr];rw[hr] at h1;generalize zj p=R at*;refine AC.mk Tryz.func96 rfl rfl rfl rfl rfl (Wz rfl) ?_;repeat'(first|((with_reducible refine D.nil ?_);refine AX.Bd ?_)|((with_reducible refine D.load ?_);refine L.Dr U U U U U U ?_)|((with_reducible refine D.move ?_);refine L.mv U U U ?_)|((with_reducible refine D.assign ?_);refine L.C6 U U U ?_)|((with_reducible refine D.call ?_);first|refine L.c2 (h1) U U U U ?_|refine L.c2 (h2) U U U U ?_)|((with_reducible refine D.extract ?_);refine L.ex U U U U ?_)|((with_reducible refine D.box ?_);refine L.bx U U U U ?_)|((with_reducible refine D.alloc ?_);refine L.al U U U ?_)|((with_reducible refine D.store ?_);refine L.st U U U U U U U U U ?_)|((with_reducible refine D.aw ?_);first|refine K.sq (AW.AV ?_)|refine K.sq (K.sq ?_)|refine AW.AV ?_|refine AW.B4 U ?_|refine AW.ret ?_)|with_reducible refine K.tN ?_|with_reducible refine K.tR ?_|with_reducible refine K.r1 (by with_unfolding_all rfl) (by with_unfolding_all rfl) ?_)
  rfl
 rw[X4] at hr;rw[Pf.CF,if_neg (by simp[hr])];rw[hr] at h1;refine AC.mk Tryz.func96 rfl rfl rfl rfl rfl (Wz rfl) ?_;repeat'(first|((with_reducible refine D.nil ?_);refine AX.Bd ?_)|((with_reducible refine D.load ?_);refine L.Dr U U U U U U ?_)|((with_reducible refine D.move ?_);refine L.mv U U U ?_)|((with_reducible refine D.fieldAddr ?_);refine L.Gp U U U U U ?_)|((with_reducible refine D.assign ?_);refine L.C6 U U U ?_)|((with_reducible refine D.call ?_);first|refine L.LJ U U U U ?_|refine L.c2 (h1) U U U U ?_)|((with_reducible refine D.box ?_);refine L.bx U U U U ?_)|((with_reducible refine D.alloc ?_);refine L.al U U U ?_)|((with_reducible refine D.aw ?_);first|refine K.sq (AW.AV ?_)|refine K.sq (K.sq ?_)|refine AW.AV ?_|refine AW.B6 U ?_|refine AW.skip ?_)|with_reducible refine K.tN ?_)
 refine AW.range p.args.length (fun m=>∀i (hi:i<p.args.length),i<m->p.args[i].nx.2.1=false/\p.args[i].nx.2.2=0)
  (fun m=>([(1,.ptr 0 0),(2,.ptr 1 0),(23,.s .pf p.args),(24,.i p.args.length),(25,.i m)],⟨2,[(0,.var p.view),(1,.var [.i 0,.i 0,.i 0,.slice .nil (.t .ty []),.slice .nil (.t .tm []),.slice .nil (.t .fm []),.slice .nil (.t .pf [])])]⟩))
  (by omega) (fun m=>rfl) (fun m=>rfl) U (fun i _ h=>by omega) (Bi.mk [some 0,some 1] _ _ _ U U U U (by(repeat'(first|exact trivial|refine And.intro ?_ ?_|refine⟨_,U,_,U,?_⟩|exact Ao.refl _));done) (by(repeat'(first|exact trivial|refine And.intro ?_ ?_|refine⟨_,U,_,U,_,U,?_⟩|exact Ao.refl _));done)) ?_ ?_
 .intro m hm hP;have hs2:=za Pf.full (Wi hm);have hc:=ih p.args[m] (by omega) (by omega) (s6 _ (Wi hm));by_cases hd:p.args[m].nx.2.1=true\/p.args[m].nx.2.2≠0
  .rw[Oo p.args m hm hP hd];simp only;generalize p.args[m].nx=R at*;obtain⟨u,f,e⟩:=R;simp only at hc hd ⊢;cases f with
   |true=>
    repeat'(first|((with_reducible refine D.nil ?_);refine AX.Bd ?_)|((with_reducible refine D.load ?_);first|refine L.Dr U U U U U U ?_|refine L.IV U U U U U ?_)|((with_reducible refine D.move ?_);first|refine L.mv U U U ?_|refine AX.sk U U ?_)|((with_reducible refine D.assign ?_);refine L.C6 U U U ?_)|((with_reducible refine D.bin ?_);refine AX.sk U U ?_)|((with_reducible refine D.call ?_);refine L.c2 (hc) U U U U ?_)|((with_reducible refine D.extract ?_);refine L.ex U U U U ?_)|((with_reducible refine D.alloc ?_);refine L.al U U U ?_)|((with_reducible refine D.store ?_);refine L.st U U U U U U U U U ?_)|((with_reducible refine D.indexAddr ?_);refine L.D9 _ U U U U U U U (by first|assumption|fail) ?_)|((with_reducible refine D.pick ?_);refine L.pk U U U U ?_)|((with_reducible refine D.aw ?_);(fail_if_success with_reducible refine D.EM (id:=9) ?_);(fail_if_success with_reducible refine D.EN (id:=9) ?_);first|refine K.sq (AW.AV ?_)|refine AW.B4 U ?_)|with_reducible refine K.tN ?_)
    refine K.sq (AW.AV ?_);refine L.Gp rfl rfl rfl rfl rfl ?_;refine L.Dr rfl rfl rfl rfl rfl rfl ?_;refine L.KO (te:=30) rfl rfl rfl rfl (by kernel_rfl) rfl rfl rfl rfl (by omega) (by omega) ?_;repeat'(first|((with_reducible refine D.nil ?_);refine AX.Bd ?_)|((with_reducible refine D.load ?_);refine L.Dr U U U U U U ?_)|((with_reducible refine D.move ?_);refine L.mv U U U ?_)|((with_reducible refine D.assign ?_);refine L.C6 U U U ?_)|((with_reducible refine D.aw ?_);refine K.sq (AW.AV ?_))|with_reducible refine K.tN ?_)
    refine L.Ev m rfl rfl rfl rfl rfl hm rfl ?_;refine L.sta (c:= .pf) (l:=p.args) (u:=u) m rfl rfl rfl rfl rfl rfl rfl rfl hm rfl ?_;repeat'(first|((with_reducible refine D.nil ?_);refine AX.Bd ?_)|with_reducible refine K.tN ?_)
    refine AW.BQ (c:= .pf) 4 p.args.length (p.args.set m u) rfl (by simp) (by(repeat'(first|exact trivial|exact fun _=>rfl|exact fun h=>absurd rfl h|exact fun h=>absurd h (by decide)|refine And.intro ?_ ?_|intro _));done) (by(repeat'(first|exact trivial|exact fun _=>rfl|exact fun h=>absurd rfl h|exact fun h=>absurd h (by decide)|refine And.intro ?_ ?_|intro _));done) ?_;repeat'(first|((with_reducible refine D.nil ?_);refine AX.Bd ?_)|((with_reducible refine D.load ?_);refine L.Dr U U U U U U ?_)|((with_reducible refine D.move ?_);refine L.mv U U U ?_)|((with_reducible refine D.fieldAddr ?_);refine L.Gp U U U U U ?_)|((with_reducible refine D.assign ?_);refine L.C6 U U U ?_)|((with_reducible refine D.store ?_);refine L.st U U U U U U U U U ?_)|((with_reducible refine D.aw ?_);first|refine K.sq (AW.AV ?_)|refine AW.ret ?_)|with_reducible refine K.tN ?_|with_reducible refine K.tR ?_|with_reducible refine K.bR ?_|with_reducible refine K.gR ?_|with_reducible refine K.r1 (by with_unfolding_all rfl) (by with_unfolding_all rfl) ?_)
    rfl
   |false=>
    have he:e≠0:=hd.resolve_left (by simp);repeat'(first|((with_reducible refine D.nil ?_);refine AX.Bd ?_)|((with_reducible refine D.load ?_);first|refine L.Dr U U U U U U ?_|refine L.IV U U U U U ?_)|((with_reducible refine D.move ?_);refine L.mv U U U ?_)|((with_reducible refine D.assign ?_);refine L.C6 U U U ?_)|((with_reducible refine D.bin ?_);refine L.bn U U U U U ?_)|((with_reducible refine D.call ?_);refine L.c2 (hc) U U U U ?_)|((with_reducible refine D.extract ?_);refine L.ex U U U U ?_)|((with_reducible refine D.alloc ?_);refine L.al U U U ?_)|((with_reducible refine D.store ?_);refine L.st U U U U U U U U U ?_)|((with_reducible refine D.indexAddr ?_);refine L.D9 _ U U U U U U U (by first|assumption|fail) ?_)|((with_reducible refine D.pick ?_);refine L.pk U U U U ?_)|((with_reducible refine D.aw ?_);(fail_if_success with_reducible refine D.EM (id:=9) ?_);(fail_if_success with_reducible refine D.EN (id:=9) ?_);first|refine K.sq (AW.AV ?_)|refine AW.Dq U (fun h=> ?_) (fun h=> ?_)|refine AW.skip ?_)|with_reducible refine K.tN ?_|with_reducible refine K.bN ?_)
    all_goals first
     |(exfalso;simp at h;exact he h)
     |skip
    refine K.sq (AW.AV ?_);refine L.Gp rfl rfl rfl rfl rfl ?_;refine L.Dr rfl rfl rfl rfl rfl rfl ?_;refine L.KO (te:=30) rfl rfl rfl rfl (by kernel_rfl) rfl rfl rfl rfl (by omega) (by omega) ?_;repeat'(first|((with_reducible refine D.nil ?_);refine AX.Bd ?_)|((with_reducible refine D.load ?_);refine L.Dr U U U U U U ?_)|((with_reducible refine D.move ?_);refine L.mv U U U ?_)|((with_reducible refine D.assign ?_);refine L.C6 U U U ?_)|((with_reducible refine D.aw ?_);refine K.sq (AW.AV ?_))|with_reducible refine K.tN ?_)
    refine L.Ev m rfl rfl rfl rfl rfl hm rfl ?_;refine L.sta (c:= .pf) (l:=p.args) (u:=u) m rfl rfl rfl rfl rfl rfl rfl rfl hm rfl ?_;repeat'(first|((with_reducible refine D.nil ?_);refine AX.Bd ?_)|with_reducible refine K.tN ?_)
    refine AW.BQ (c:= .pf) 4 p.args.length (p.args.set m u) rfl (by simp) (by(repeat'(first|exact trivial|exact fun _=>rfl|exact fun h=>absurd rfl h|exact fun h=>absurd h (by decide)|refine And.intro ?_ ?_|intro _));done) (by(repeat'(first|exact trivial|exact fun _=>rfl|exact fun h=>absurd rfl h|exact fun h=>absurd h (by decide)|refine And.intro ?_ ?_|intro _));done) ?_;repeat'(first|((with_reducible refine D.nil ?_);refine AX.Bd ?_)|((with_reducible refine D.load ?_);refine L.Dr U U U U U U ?_)|((with_reducible refine D.move ?_);refine L.mv U U U ?_)|((with_reducible refine D.fieldAddr ?_);refine L.Gp U U U U U ?_)|((with_reducible refine D.assign ?_);refine L.C6 U U U ?_)|((with_reducible refine D.store ?_);refine L.st U U U U U U U U U ?_)|((with_reducible refine D.aw ?_);first|refine K.sq (AW.AV ?_)|refine AW.ret ?_)|with_reducible refine K.tN ?_|with_reducible refine K.tR ?_|with_reducible refine K.bR ?_|with_reducible refine K.gR ?_|with_reducible refine K.r1 (by with_unfolding_all rfl) (by with_unfolding_all rfl) ?_)
    rfl
  .have g1:p.args[m].nx.2.1=false:=by cases h:p.args[m].nx.2.1 with|false=>rfl|true=>exact absurd (.inl h) hd
   have g2:p.args[m].nx.2.2=0:=Xa fun h=>hd (.inr h);rw[g1,g2] at hc;repeat'(first|((with_reducible refine D.nil ?_);refine AX.Bd ?_)|((with_reducible refine D.load ?_);first|refine L.Dr U U U U U U ?_|refine L.IV U U U U U ?_)|((with_reducible refine D.move ?_);refine L.mv U U U ?_)|((with_reducible refine D.assign ?_);refine L.C6 U U U ?_)|((with_reducible refine D.bin ?_);refine L.bn U U U U U ?_)|((with_reducible refine D.call ?_);refine L.c2 (hc) U U U U ?_)|((with_reducible refine D.extract ?_);refine L.ex U U U U ?_)|((with_reducible refine D.alloc ?_);refine L.al U U U ?_)|((with_reducible refine D.store ?_);refine L.st U U U U U U U U U ?_)|((with_reducible refine D.indexAddr ?_);refine L.D9 _ U U U U U U U (by first|assumption|fail) ?_)|((with_reducible refine D.pick ?_);refine L.pk U U U U ?_)|((with_reducible refine D.aw ?_);first|refine K.sq (AW.AV ?_)|refine AW.B6 U ?_|refine AW.skip ?_)|with_reducible refine K.tN ?_|with_reducible refine K.bN ?_)
   refine⟨rfl,fun i hi him=> ?_,(Bi.mk [some 0,some 1] _ _ _ U U U U (by(repeat'(first|exact trivial|refine And.intro ?_ ?_|refine⟨_,U,_,U,?_⟩|exact Ao.refl _));done) (by(repeat'(first|exact trivial|refine And.intro ?_ ?_|refine⟨_,U,_,U,_,U,?_⟩|exact Ao.refl _));done))⟩;by_cases e:i=m
   .subst e;exact⟨g1,g2⟩
   .exact hP i hi (by omega)
 .intro hP;rw[NJ p.args fun i hi=>hP i hi hi];simp only;repeat'(first|((with_reducible refine D.nil ?_);refine AX.Bd ?_)|((with_reducible refine D.load ?_);refine L.Dr U U U U U U ?_)|((with_reducible refine D.assign ?_);refine L.C6 U U U ?_)|((with_reducible refine D.store ?_);refine L.st U U U U U U U U U ?_)|((with_reducible refine D.aw ?_);first|refine K.sq (AW.AV ?_)|refine AW.ret ?_)|with_reducible refine K.tN ?_|with_reducible refine K.r1 (by with_unfolding_all rfl) (by with_unfolding_all rfl) ?_)
  rfl
end Go.Ab
