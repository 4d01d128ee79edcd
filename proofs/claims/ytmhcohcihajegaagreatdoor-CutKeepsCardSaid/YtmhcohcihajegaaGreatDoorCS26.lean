/- A part of this seat's proofs. No conditions. -/
import Derived.Test.YtmhcohcihajegaaGreatDoorCS23
import Derived.Test.YtmhcohcihajegaaGreatDoorCS25
namespace Go.Ab
open Go Go.Proofs
set_option maxRecDepth 100000
set_option maxHeartbeats 4000000
set_option linter.all false
theorem V3(p:Pf)(hp:p.full<5000000000)(hs:p.nd):PC E 74 [.agg p.view] (.bool p.Bu):=by
 have hc:=Yqv _ p 0 0 [] (fB _) kn kn kn hs;rw[gz] at hc;unfold Pf.Bu;generalize (p.DM DO 0).all id=b at*;refine M.F Tryz.func74 ?_;(repeat' first|refine M.w0 ?_|refine M.cv (hc) [1] 0 ?_|fail);simp[zn,V.wk,V.Ar,za,Ty.view,Tm.view]
theorem Yi4(p:Pf)(a:Int)(hp:p.full<1000000000)(hs:p.nd)(hx:p.hx 9223372036854775808):PC E 76 [.agg p.view,.i a] (.i (GD p a)):=by
 have hl:=Ze a p 0;have hc:=Yq1 a _ p 0 0 [] (fB _) kn kn kn hs hx (by rw[gz];omega);rw[gz] at hc;unfold GD;generalize (p.DM (C3 a) 0).length=n at*;refine M.F Tryz.func76 ?_;(repeat' first|refine M.w0 ?_|refine M.cv (hc) [1,2] 0 ?_|fail);simp[zn,V.wk,V.Ar,za,Ty.view,Tm.view]
theorem YQ(n m:Int):PC E 73 [.i n,.i m] (.bool (decide (0<=n/\n<=m))):=by
 by_cases h1:0<=n
 .by_cases h2:n<=m
  .rw[decide_eq_true ⟨h1,h2⟩];refine M.F Tryz.func73 ?_;(repeat' first|refine M.w0 ?_|refine M.gs ?_ ?_<;>intro h|fail);all_goals first|simp[zn,V.wk];omega|exfalso;simp at*;omega|simp[zn,V.wk,h1,h2];done
  .rw[decide_eq_false kn];refine M.F Tryz.func73 ?_;(repeat' first|refine M.w0 ?_|refine M.gs ?_ ?_<;>intro h|fail);all_goals first|exfalso;simp at*;omega|simp[zn,V.wk,h1,h2];done|simp[zn,V.wk];omega
 .rw[decide_eq_false kn];refine M.F Tryz.func73 ?_;(repeat' first|refine M.w0 ?_|refine M.gs ?_ ?_<;>intro h|fail);all_goals first|exfalso;simp at*;omega|simp[zn,V.wk,h1];done|simp[zn,V.wk];omega
theorem VE(p:Pf)(hp:p.full<274877906944):PC E 72 [.agg p.view] (.AP [.i p.num,.i p.err]):=by
 have h:=Yc p hp;refine M.F Tryz.func72 ?_;refine M.w1 @h ?_
 rfl
theorem Ul{p:Pf}(h:p.err=0):p.shape=true/\p.small=true/\p.size<=16384/\p.nd/\p.full<=1064960/\p.num=p.size:=by
 have h1:=(Pf.Aa p).1 h;have h2:=Of p h1.1;exact⟨h1.1,h1.2.1,h1.2.2,Lg p h1.1,kn,by unfold Pf.num;rw[if_pos h]⟩
theorem Yrn(p:Pf)(a:Int)(s:Tm)(hp:p.full<274877906944)(hs:s.full<274877906944):PC E 206 [.agg p.view,.i a,.agg s.view] (.AP [.agg (if vh p a s=0 then p.pt a s 0 else CB).view,.i (vh p a s)]):=by
 have h1:=VE p hp;by_cases he:p.err=0;case neg=>
  rw[ZC he,if_neg he];refine M.F Tryz.func206 ?_;(repeat' first|refine M.o1 @h1 ?_|refine M.z1 4 ?_|refine M.cs ?_ ?_<;>intro h|refine M.gk ?_|fail);all_goals first
   |rfl
   |(exfalso;simp at h;exact he h)
   |trace_state
 obtain⟨g1,g2,g3,g4,g5,g6⟩:=Ul he;rw[he,g6] at h1;have h2:=YQ a 4096;by_cases ha:0<=a/\a<=4096;case neg=>
  rw[decide_eq_false ha] at h2;rw[YE he ha,if_neg kq];refine M.F Tryz.func206 ?_;refine M.w2 @h1 @h2 ?_
  rfl
 rw[decide_eq_true ha] at h2;have h3:=Yq2 s kn;by_cases es:s.err=0;case neg=>
  rw[Y1 he ha es,if_neg es];refine M.F Tryz.func206 ?_;(repeat' first|refine M.o3 @h1 @h2 @h3 ?_|refine M.z1 9 ?_|refine M.cs ?_ ?_<;>intro h|refine M.gk ?_|fail);all_goals first
   |rfl
   |(exfalso;simp at h;exact es h)
   |trace_state
 have s1:=(Tm.Aa s).1 es;have s2:=ye es;rw[es,show s.num=s.size by unfold Tm.num;rw[if_pos es]] at h3;have h4:=SV p kn g4;have h5:=QY s kn;by_cases hn:p.Br=false\/s.near=false
 .rw[XS he ha es hn,if_neg kq];cases hb:p.Br with
  |false=>
   rw[hb] at h4;refine M.F Tryz.func206 ?_;refine M.w4 @h1 @h2 @h3 @h4 ?_
   rfl
  |true=>
   rw[hb] at h4;rw[hn.resolve_left (by simp[hb])] at h5;refine M.F Tryz.func206 ?_;refine M.w5 @h1 @h2 @h3 @h4 @h5 ?_
   rfl
 rw[Xx he ha es hn];have n1:p.Br=true:=by cases h:p.Br with|true=>rfl|false=>exact absurd (.inl h) hn
 have n2:s.near=true:=by cases h:s.near with|true=>rfl|false=>exact absurd (.inr h) hn
 rw[n1] at h4;rw[n2] at h5;have hix:=Z2 p g1 g2 0 n1;have sp:=s.size_pos;have hG:=Ys5 a p g2 kn 0;have h6:=Yr4 a s.size p.size ha kn (by have:=p.size_pos;omega) _ p 0 0 [] (fB _) kn kn kn g4 (KB hix kn) g1 g2 (by rw[gz];exact hG);rw[gz] at h6;have hbd:=TS (n:=p.size) (k:=s.size) kn kn hG;have h7:=Yri p a s kn kn (Uz es n2) kn g4 hix;unfold Lq;obtain⟨N0,e1⟩:∃x,x=Dt p.size s.size (p.Ee (BN a) (BX a) 0):=⟨_,rfl⟩;obtain⟨B0,e2⟩:∃x,x=D7 s.size (p.Ee (BN a) (BX a) 0):=⟨_,rfl⟩;have e3:Dt p.size s.size []=p.size:=by simp[Dt]
 have e4:D7 s.size []=false:=by simp[D7]
 rw[<-e1,<-e2,e3,e4] at h6;rw[<-e1,<-e2];generalize p.pt a s 0=P at*;clear e1 e2 hbd hG;cases B0
 .by_cases hN:N0>16384
  .rw[if_pos (Or.inr hN),if_neg kq];refine M.F Tryz.func206 ?_;(repeat' first|refine M.o5 @h1 @h2 @h3 @h4 @h5 ?_|refine M.cv (h6) [6,1,4,5] 0 ?_|refine M.z1 15 ?_|refine M.cs ?_ ?_<;>intro h|refine M.gk ?_|fail);all_goals first
    |rfl
    |(exfalso;simp at h;omega)
    |trace_state
  .rw[if_neg (show ¬(false=true\/N0>16384) by simp;omega),if_pos rfl];refine M.F Tryz.func206 ?_;(repeat' first|refine M.w5 @h1 @h2 @h3 @h4 @h5 ?_|refine M.cv (h6) [6,1,4,5] 0 ?_|refine M.c2 (h7) ?_|refine M.cs ?_ ?_<;>intro h|fail);all_goals first
    |rfl
    |(exfalso;simp at h;omega)
    |trace_state
 .rw[if_pos (Or.inl rfl),if_neg kq];refine M.F Tryz.func206 ?_;(repeat' first|refine M.w5 @h1 @h2 @h3 @h4 @h5 ?_|refine M.cv (h6) [6,1,4,5] 0 ?_|fail)
  rfl
theorem Yj7(p:Pf)(a:Int)(q:Pf)(hp:p.full<274877906944)(hq:q.full<274877906944):PC E 24 [.agg p.view,.i a,.agg q.view] (.AP [.agg (if D8 p a q=0 then Pf.ph a q 0 0 p else CB).view,.i (D8 p a q)]):=by
 have h1:=VE p hp;by_cases he:p.err=0;case neg=>
  rw[c9 he,if_neg he];refine M.F Tryz.func24 ?_;(repeat' first|refine M.o1 @h1 ?_|refine M.z1 4 ?_|refine M.cs ?_ ?_<;>intro h|refine M.gk ?_|fail);all_goals first
   |rfl
   |(exfalso;simp at h;exact he h)
   |trace_state
 obtain⟨g1,g2,g3,g4,g5,g6⟩:=Ul he;rw[he,g6] at h1;have h2:=YQ a 16384;by_cases ha:0<=a/\a<=16384;case neg=>
  rw[decide_eq_false ha] at h2;rw[Y9 he ha,if_neg kq];refine M.F Tryz.func24 ?_;refine M.w2 @h1 @h2 ?_
  rfl
 rw[decide_eq_true ha] at h2;have h3:=VE q hq;by_cases es:q.err=0;case neg=>
  rw[YZ he ha es,if_neg es];refine M.F Tryz.func24 ?_;(repeat' first|refine M.o3 @h1 @h2 @h3 ?_|refine M.z1 9 ?_|refine M.cs ?_ ?_<;>intro h|refine M.gk ?_|fail);all_goals first
   |rfl
   |(exfalso;simp at h;exact es h)
   |trace_state
 obtain⟨s1,s2,s3,s4,s5,s6⟩:=Ul es;rw[es,s6] at h3;have h4:=V3 p kn g4;have h5:=V3 q kn s4;have h6:=SV q kn s4;by_cases hn:p.Bu=false\/q.Bu=false\/q.Br=false
 .rw[ZT he ha es hn,if_neg kq];cases hb:p.Bu with
  |false=>
   rw[hb] at h4;refine M.F Tryz.func24 ?_;refine M.w4 @h1 @h2 @h3 @h4 ?_
   rfl
  |true=>
   rw[hb] at h4;cases hb2:q.Bu with
   |false=>
    rw[hb2] at h5;by_cases hpq:p=q
    .subst hpq;rw[hb] at hb2;cases hb2
    refine M.F Tryz.func24 ?_;refine M.w5 @h1 @h2 @h3 @h4 @h5 ?_
    rfl
   |true=>
    rw[hb2] at h5;rw[(hn.resolve_left (by simp[hb])).resolve_left (by simp[hb2])] at h6;refine M.F Tryz.func24 ?_;refine M.w6 @h1 @h2 @h3 @h4 @h5 @h6 ?_
    rfl
 rw[eW he ha es hn];have n1:p.Bu=true:=by cases h:p.Bu with|true=>rfl|false=>exact absurd (.inl h) hn
 have n2:q.Bu=true:=by cases h:q.Bu with|true=>rfl|false=>exact absurd (.inr (.inl h)) hn
 have n3:q.Br=true:=by cases h:q.Br with|true=>rfl|false=>exact absurd (.inr (.inr h)) hn
 rw[n1] at h4;rw[n2] at h5;rw[n3] at h6;have hx:=YA p g1 0 n1;have h7:=Yi4 p a kn g4 (MW hx kn);have hl:=Ze a p 0;have hcl:0<=GD p a/\GD p a<=1064960:=by unfold GD;omega
 have sp:=q.size_pos;have m1:0<=GD p a*((q.size:Int)-1):=ki hcl.1 kn;have m2:GD p a*((q.size:Int)-1)<=1064960*16384:=kj hcl.2 kn kn kn;have hm': -9223372036854775808<=GD p a*((q.size:Int)-1)/\GD p a*((q.size:Int)-1)<=9223372036854775807:=kn
 have h8:=Yps p a q kn kn s4 kn g4 hx;generalize Pf.ph a q 0 0 p=P at*;by_cases hz:(p.size:Int)+GD p a*(q.size-1)>16384
 .rw[if_pos hz,if_neg kq];refine M.F Tryz.func24 ?_;(repeat' first|refine M.o6 @h1 @h2 @h3 @h4 @h5 @h6 ?_|refine M.c2 (h7) ?_|refine M.z1 13 ?_|refine M.cs ?_ ?_<;>intro h|refine M.gk ?_|fail);all_goals first
   |rfl
   |(exfalso;simp at h;omega)
   |trace_state
 .rw[if_neg hz,if_pos rfl];refine M.F Tryz.func24 ?_;(repeat' first|refine M.w6 @h1 @h2 @h3 @h4 @h5 @h6 ?_|refine M.c2 (h7) ?_|refine M.c2 (h8) ?_|refine M.cs ?_ ?_<;>intro h|fail);all_goals first
   |rfl
   |(exfalso;simp at h;omega)
   |trace_state
theorem Qp(p:Pf)(t:Tm)(hp:p.full<274877906944)(ht:t.full<274877906944):PC E 206 [.agg p.view,.i 0,.agg t.view] (.AP [.agg (De p 0 t).view,.i (vh p 0 t)]):=Yrn p 0 t hp ht
theorem Xf(p q:Pf)(hp:p.full<274877906944)(hq:q.full<274877906944):PC E 24 [.agg p.view,.i 0,.agg q.view] (.AP [.agg (Ff p 0 q).view,.i (D8 p 0 q)]):=Yj7 p 0 q hp hq
theorem Yls(t:Tm)(ht:t.full<274877906944):PC E 209 [.agg t.view,.i 0,.i 1] (.AP [.agg (EY t).view,.i (wm t 0 1)]):=Zsk t 0 1 ht
theorem fk(p:Pf)(t:Tm):PC E 208 [.agg p.view,.agg t.view] (.agg (vt p t).view):=by
 refine M.F Tryz.func208 ?_;refine M.w0 ?_
 rfl
theorem Q1(q:Pf)(t:Tm)(p:Pf)(hq:q.full<100000000000)(ht:t.full<100000000000)(hp:p.full<100000000000)(hx:(De q 0 t).full<100000000000):
 PC E 207 [.agg q.view,.agg t.view,.agg p.view] (.AP [.agg (un q t p).1.view,.i (un q t p).2]):=by
 have h1:=Qp q t kn kn;have h2:=Xf (De q 0 t) p kn kn;unfold un;by_cases e:vh q 0 t=0
 .rw[if_neg (by simp[e])];rw[e] at h1;refine M.F Tryz.func207 ?_;refine M.w2 @h1 @h2 ?_
  rfl
 .rw[if_pos e];generalize De q 0 t=X at*;refine M.F Tryz.func207 ?_;(repeat' first|refine M.w1 @h1 ?_|refine M.cs ?_ ?_<;>intro h|fail);all_goals first
   |rfl
   |(exfalso;simp at h;exact e h)
   |trace_state
theorem Yp3{i i2:Int}{s s2:Ty}{ts ts2:List Tm}{fs fs2:List Fm}{a b:Pf}{rest rest2:List Pf}:
 PC E 167 [.agg (Pf.mk 4 i s ts fs (Pf.mk 3 i2 s2 ts2 fs2 (a::b::rest2)::rest)).view] (.AP [.agg a.view,.i 0]):=by
 have hof:=Il (Pf.mk 4 i s ts fs (Pf.mk 3 i2 s2 ts2 fs2 (a::b::rest2)::rest)) (fun h=>lK);rw[show yl (Pf.mk 4 i s ts fs (Pf.mk 3 i2 s2 ts2 fs2 (a::b::rest2)::rest))=(4,3) from rfl] at hof;refine M.F Tryz.func167 ?_;(repeat' first|refine M.w0 ?_|refine M.bp 3 ?_|refine M.c2 (hof) ?_|refine M.bl ?_|fail);all_goals first
  |rfl
  |trace_state
theorem Yr5{i i2:Int}{s s2:Ty}{ts ts2:List Tm}{fs fs2:List Fm}{a b:Pf}{rest rest2:List Pf}:
 PC E 167 [.agg (Pf.mk 5 i s ts fs (Pf.mk 3 i2 s2 ts2 fs2 (a::b::rest2)::rest)).view] (.AP [.agg b.view,.i 0]):=by
 have hof:=Il (Pf.mk 5 i s ts fs (Pf.mk 3 i2 s2 ts2 fs2 (a::b::rest2)::rest)) (fun h=>lK);rw[show yl (Pf.mk 5 i s ts fs (Pf.mk 3 i2 s2 ts2 fs2 (a::b::rest2)::rest))=(5,3) from rfl] at hof;refine M.F Tryz.func167 ?_;(repeat' first|refine M.w0 ?_|refine M.bp 3 ?_|refine M.c2 (hof) ?_|refine M.bl ?_|fail);all_goals first
  |rfl
  |trace_state
theorem Ytd{i i2:Int}{s s2:Ty}{ts ts2:List Tm}{fs fs2:List Fm}{a b:Pf}{rest rest2:List Pf}(ha:a.full<100000000000)(hb:b.full<100000000000):
 PC E 167 [.agg (Pf.mk 7 i s ts fs (Pf.mk 6 i2 s2 ts2 fs2 (a::rest2)::b::rest)).view] (.AP [.agg (Ff a 0 b).view,.i (D8 a 0 b)]):=by
 have hof:=Il (Pf.mk 7 i s ts fs (Pf.mk 6 i2 s2 ts2 fs2 (a::rest2)::b::rest)) (fun h=>lK);rw[show yl (Pf.mk 7 i s ts fs (Pf.mk 6 i2 s2 ts2 fs2 (a::rest2)::b::rest))=(7,6) from rfl] at hof;have c1:=Xf a b kn kn;refine M.F Tryz.func167 ?_;(repeat' first|refine M.w0 ?_|refine M.bp 3 ?_|refine M.c2 (hof) ?_|refine M.c2 (c1) ?_|refine M.bl ?_|fail);all_goals first
  |rfl
  |trace_state
theorem Ytv{i i2:Int}{s s2:Ty}{t:Tm}{ts ts2:List Tm}{fs fs2:List Fm}{a:Pf}{rest rest2:List Pf}(ha:a.full<100000000000)(ht:t.full<100000000000):
 PC E 167 [.agg (Pf.mk 9 i s (t::ts) fs (Pf.mk 8 i2 s2 ts2 fs2 (a::rest2)::rest)).view] (.AP [.agg (De a 0 t).view,.i (vh a 0 t)]):=by
 have hof:=Il (Pf.mk 9 i s (t::ts) fs (Pf.mk 8 i2 s2 ts2 fs2 (a::rest2)::rest)) (fun h=>lK);rw[show yl (Pf.mk 9 i s (t::ts) fs (Pf.mk 8 i2 s2 ts2 fs2 (a::rest2)::rest))=(9,8) from rfl] at hof;have c1:=Qp a t kn kn;refine M.F Tryz.func167 ?_;(repeat' first|refine M.w0 ?_|refine M.bp 3 ?_|refine M.c2 (hof) ?_|refine M.c2 (c1) ?_|refine M.bl ?_|fail);all_goals first
  |rfl
  |trace_state
theorem Yqf{i i2:Int}{s s2:Ty}{t:Tm}{ts ts2:List Tm}{fs fs2:List Fm}{a:Pf}{rest rest2:List Pf}(ha:a.full<100000000000)(ht:t.full<100000000000):
 PC E 167 [.agg (Pf.mk 13 i s (t::ts) fs (Pf.mk 12 i2 s2 ts2 fs2 (a::rest2)::rest)).view] (.AP [.agg (De a 0 t).view,.i (vh a 0 t)]):=by
 have hof:=Il (Pf.mk 13 i s (t::ts) fs (Pf.mk 12 i2 s2 ts2 fs2 (a::rest2)::rest)) (fun h=>lK);rw[show yl (Pf.mk 13 i s (t::ts) fs (Pf.mk 12 i2 s2 ts2 fs2 (a::rest2)::rest))=(13,12) from rfl] at hof;have c1:=Qp a t kn kn;refine M.F Tryz.func167 ?_;(repeat' first|refine M.w0 ?_|refine M.bp 3 ?_|refine M.c2 (hof) ?_|refine M.c2 (c1) ?_|refine M.bl ?_|fail);all_goals first
  |rfl
  |trace_state
theorem Vf{i i2:Int}{s s2:Ty}{t:Tm}{ts ts2:List Tm}{fs fs2:List Fm}{a b:Pf}{rest rest2:List Pf}(ha:a.full<100000000000)(hb:b.full<100000000000)(ht:t.full<100000000000)(hx:(De b 0 t).full<100000000000):
 PC E 167 [.agg (Pf.mk 11 i s ts fs (Pf.mk 10 i2 s2 (t::ts2) fs2 (a::rest2)::b::rest)).view] (.AP [.agg (un b t a).1.view,.i (un b t a).2]):=by
 have hof:=Il (Pf.mk 11 i s ts fs (Pf.mk 10 i2 s2 (t::ts2) fs2 (a::rest2)::b::rest)) (fun h=>lK);rw[show yl (Pf.mk 11 i s ts fs (Pf.mk 10 i2 s2 (t::ts2) fs2 (a::rest2)::b::rest))=(11,10) from rfl] at hof;have c1:=Q1 b t a hb ht ha hx;refine M.F Tryz.func167 ?_;(repeat' first|refine M.w0 ?_|refine M.bp 3 ?_|refine M.c2 (hof) ?_|refine M.c2 (c1) ?_|refine M.bl ?_|fail);all_goals first
  |rfl
  |trace_state
theorem Ysw{i i2:Int}{s s2:Ty}{t:Tm}{ts ts2:List Tm}{fs fs2:List Fm}{a b:Pf}{rest rest2:List Pf}(ha:a.full<100000000000)(hb:b.full<100000000000)(ht:t.full<100000000000)(hx:(De b 0 t).full<100000000000):
 PC E 167 [.agg (Pf.mk 15 i s ts fs (Pf.mk 14 i2 s2 (t::ts2) fs2 (a::rest2)::b::rest)).view] (.AP [.agg (un b t a).1.view,.i (un b t a).2]):=by
 have hof:=Il (Pf.mk 15 i s ts fs (Pf.mk 14 i2 s2 (t::ts2) fs2 (a::rest2)::b::rest)) (fun h=>lK);rw[show yl (Pf.mk 15 i s ts fs (Pf.mk 14 i2 s2 (t::ts2) fs2 (a::rest2)::b::rest))=(15,14) from rfl] at hof;have c1:=Q1 b t a hb ht ha hx;refine M.F Tryz.func167 ?_;(repeat' first|refine M.w0 ?_|refine M.bp 3 ?_|refine M.c2 (hof) ?_|refine M.c2 (c1) ?_|refine M.bl ?_|fail);all_goals first
  |rfl
  |trace_state
theorem Yr1{i i2:Int}{s s2:Ty}{ts ts2:List Tm}{fs:List Fm}{a:Pf}{rest:List Pf}:
 PC E 167 [.agg (Pf.mk 16 i s (Tm.mk 4 i2 s2 ts2::ts) fs (a::rest)).view] (.AP [.agg a.view,.i 0]):=by
 have hof:=Il (Pf.mk 16 i s (Tm.mk 4 i2 s2 ts2::ts) fs (a::rest)) (fun h=>ko);rw[show yl (Pf.mk 16 i s (Tm.mk 4 i2 s2 ts2::ts) fs (a::rest))=(16,4) from rfl] at hof;refine M.F Tryz.func167 ?_;(repeat' first|refine M.w0 ?_|refine M.bp 3 ?_|refine M.c2 (hof) ?_|refine M.bl ?_|fail);all_goals first
  |rfl
  |trace_state
theorem Ysn{i i2:Int}{s s2:Ty}{ts ts2:List Tm}{fs:List Fm}{a:Pf}{rest:List Pf}:
 PC E 167 [.agg (Pf.mk 17 i s (Tm.mk 7 i2 s2 ts2::ts) fs (a::rest)).view] (.AP [.agg a.view,.i 0]):=by
 have hof:=Il (Pf.mk 17 i s (Tm.mk 7 i2 s2 ts2::ts) fs (a::rest)) (fun h=>ko);rw[show yl (Pf.mk 17 i s (Tm.mk 7 i2 s2 ts2::ts) fs (a::rest))=(17,7) from rfl] at hof;refine M.F Tryz.func167 ?_;(repeat' first|refine M.w0 ?_|refine M.bp 3 ?_|refine M.c2 (hof) ?_|refine M.bl ?_|fail);all_goals first
  |rfl
  |trace_state
theorem Ypl{i i2:Int}{s s2:Ty}{t:Tm}{ts ts2:List Tm}{fs:List Fm}{a b:Pf}{rest:List Pf}(hp:(vt (Pf.mk 16 i s (Tm.mk 5 i2 s2 (t::ts2)::ts) fs (a::b::rest)) t).full<100000000000)(hb:b.full<100000000000)(ht:t.full<100000000000)(hx:(De b 0 t).full<100000000000):
 PC E 167 [.agg (Pf.mk 16 i s (Tm.mk 5 i2 s2 (t::ts2)::ts) fs (a::b::rest)).view] (.AP [.agg (un b t (vt (Pf.mk 16 i s (Tm.mk 5 i2 s2 (t::ts2)::ts) fs (a::b::rest)) t)).1.view,.i (un b t (vt (Pf.mk 16 i s (Tm.mk 5 i2 s2 (t::ts2)::ts) fs (a::b::rest)) t)).2]):=by
 have hof:=Il (Pf.mk 16 i s (Tm.mk 5 i2 s2 (t::ts2)::ts) fs (a::b::rest)) (fun h=>ko);rw[show yl (Pf.mk 16 i s (Tm.mk 5 i2 s2 (t::ts2)::ts) fs (a::b::rest))=(16,5) from rfl] at hof;have c1:=fk (Pf.mk 16 i s (Tm.mk 5 i2 s2 (t::ts2)::ts) fs (a::b::rest)) t;have c2:=Q1 b t (vt (Pf.mk 16 i s (Tm.mk 5 i2 s2 (t::ts2)::ts) fs (a::b::rest)) t) hb ht hp hx;generalize vt (Pf.mk 16 i s (Tm.mk 5 i2 s2 (t::ts2)::ts) fs (a::b::rest)) t=A at*;refine M.F Tryz.func167 ?_;(repeat' first|refine M.w0 ?_|refine M.bp 3 ?_|refine M.c2 (hof) ?_|refine M.c2 (c1) ?_|refine M.c2 (c2) ?_|refine M.bl ?_|fail);all_goals first
  |rfl
  |trace_state
end Go.Ab
