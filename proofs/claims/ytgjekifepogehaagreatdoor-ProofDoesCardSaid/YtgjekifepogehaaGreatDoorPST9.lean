/- A part of this seat's proofs. No conditions. -/
import Derived.Test.YtgjekifepogehaaGreatDoorPST8
namespace Go.Ab
open Go Go.Proofs
set_option maxRecDepth 100000
set_option maxHeartbeats 4000000
set_option linter.all false
theorem RF(p:Pf)(hp:p.full<5000000000)(hs:p.nd):PC E 106 [.agg p.view] (.bool p.A5):=by
 have hc:=Yjn _ p 0 0 [] (ZB _) dY dY dY hs;rw[Z3] at hc;unfold Pf.A5;generalize (p.B8 DK 0).all id=b at*;refine M.F Tryz.func106 ?_;(repeat' first|refine M.w0 ?_|refine M.cv (hc) [1] 0 ?_|fail);simp[zh,V.wk,V.An,za,Ty.view,Tm.view]
theorem Zz7(p:Pf)(a:Int)(hp:p.full<1000000000)(hs:p.nd)(hx:p.hx 9223372036854775808):PC E 126 [.agg p.view,.i a] (.i (Hl p a)):=by
 have hl:=Wj a p 0;have hc:=Yhg a _ p 0 0 [] (ZB _) dY dY dY hs hx (by rw[Z3];omega);rw[Z3] at hc;unfold Hl;generalize (p.B8 (Cs a) 0).length=n at*;refine M.F Tryz.func126 ?_;(repeat' first|refine M.w0 ?_|refine M.cv (hc) [1,2] 0 ?_|fail);simp[zh,V.wk,V.An,za,Ty.view,Tm.view]
theorem LN(n m:Int):PC E 101 [.i n,.i m] (.bool (decide (0<=n/\n<=m))):=by
 by_cases h1:0<=n
 .by_cases h2:n<=m
  .rw[decide_eq_true ⟨h1,h2⟩];refine M.F Tryz.func101 ?_;(repeat' first|refine M.w0 ?_|refine M.gs ?_ ?_<;>intro h|fail);all_goals first|simp[zh,V.wk];omega|exfalso;simp at*;omega|simp[zh,V.wk,h1,h2];done
  .rw[decide_eq_false dY];refine M.F Tryz.func101 ?_;(repeat' first|refine M.w0 ?_|refine M.gs ?_ ?_<;>intro h|fail);all_goals first|exfalso;simp at*;omega|simp[zh,V.wk,h1,h2];done|simp[zh,V.wk];omega
 .rw[decide_eq_false dY];refine M.F Tryz.func101 ?_;(repeat' first|refine M.w0 ?_|refine M.gs ?_ ?_<;>intro h|fail);all_goals first|exfalso;simp at*;omega|simp[zh,V.wk,h1];done|simp[zh,V.wk];omega
theorem P4(p:Pf)(hp:p.full<274877906944):PC E 15 [.agg p.view] (.AM [.i p.num,.i p.err]):=by
 have h:=Wg p hp;refine M.F Tryz.func15 ?_;refine M.w1 @h ?_
 rfl
theorem vo{p:Pf}(h:p.err=0):p.shape=true/\p.small=true/\p.size<=16384/\p.nd/\p.full<=1064960/\p.num=p.size:=by
 have h1:=(Pf.Ad p).1 h;have h2:=Lu p h1.1;exact⟨h1.1,h1.2.1,h1.2.2,Lb p h1.1,dY,by unfold Pf.num;rw[if_pos h]⟩
theorem Ye2(p:Pf)(fr by_:Int)(hp:p.full<274877906944):PC E 29 [.agg p.view,.i fr,.i by_] (.AM [.agg (if Ip p fr by_=0 then p.uw fr by_ 0 else C4).view,.i (Ip p fr by_)]):=by
 have h1:=vv p hp;by_cases he:p.err=0;case neg=>
  rw[Yu he,if_neg he];refine M.F Tryz.func29 ?_;(repeat' first|refine M.o1 @h1 ?_|refine M.z1 4 ?_|refine M.cs ?_ ?_<;>intro h|refine M.gk ?_|fail);all_goals first
   |rfl
   |(exfalso;simp at h;exact he h)
   |trace_state
 obtain⟨g1,g2,g3,g4,g5,g6⟩:=vo he;rw[he] at h1;have h2:=LN fr 4096;have h3:=LN by_ 4096;have h4:=T0 p dY g4;by_cases hg:¬(0<=fr/\fr<=4096)\/¬(0<=by_/\by_<=4096)\/p.AL=false
 .rw[Yr he hg,if_neg ej];by_cases a1:0<=fr/\fr<=4096
  .rw[decide_eq_true a1] at h2;by_cases a2:0<=by_/\by_<=4096
   .rw[decide_eq_true a2] at h3;have a3:p.AL=false:=(hg.resolve_left (fun h=>h a1)).resolve_left (fun h=>h a2);rw[a3] at h4;refine M.F Tryz.func29 ?_;refine M.w4 @h1 @h2 @h3 @h4 ?_
    rfl
   .rw[decide_eq_false a2] at h3;refine M.F Tryz.func29 ?_;refine M.w3 @h1 @h2 @h3 ?_
    rfl
  .rw[decide_eq_false a1] at h2;refine M.F Tryz.func29 ?_;refine M.w2 @h1 @h2 ?_
   rfl
 .rw[Uy he hg,if_pos rfl];obtain⟨a1,a2,a3⟩:=(show(0<=fr/\fr<=4096)/\(0<=by_/\by_<=4096)/\p.AL=true from⟨ZK.1 fun h=>hg (.inl h),ZK.1 fun h=>hg (.inr (.inl h)),by cases h:p.AL with|true=>rfl|false=>exact absurd (.inr (.inr h)) hg⟩);rw[decide_eq_true a1] at h2;rw[decide_eq_true a2] at h3;rw[a3] at h4;have h5:=YK p fr by_ dY dY g4;generalize p.uw fr by_ 0=P at*;refine M.F Tryz.func29 ?_;refine M.w5 @h1 @h2 @h3 @h4 @h5 ?_
  rfl
theorem Ycr(p:Pf)(fr by_:Int)(hp:p.full<274877906944):PC E 31 [.agg p.view,.i fr,.i by_] (.AM [.agg (if H6 p fr by_=0 then p.hw fr by_ 0 else C4).view,.i (H6 p fr by_)]):=by
 have h1:=vv p hp;by_cases he:p.err=0;case neg=>
  rw[Ws he,if_neg he];refine M.F Tryz.func31 ?_;(repeat' first|refine M.o1 @h1 ?_|refine M.z1 4 ?_|refine M.cs ?_ ?_<;>intro h|refine M.gk ?_|fail);all_goals first
   |rfl
   |(exfalso;simp at h;exact he h)
   |trace_state
 obtain⟨g1,g2,g3,g4,g5,g6⟩:=vo he;rw[he] at h1;have h2:=LN fr 16384;have h3:=LN by_ 16384;have h4:=RF p dY g4;by_cases hg:¬(0<=fr/\fr<=16384)\/¬(0<=by_/\by_<=16384)\/p.A5=false
 .rw[Up he hg,if_neg ej];by_cases a1:0<=fr/\fr<=16384
  .rw[decide_eq_true a1] at h2;by_cases a2:0<=by_/\by_<=16384
   .rw[decide_eq_true a2] at h3;have a3:p.A5=false:=(hg.resolve_left (fun h=>h a1)).resolve_left (fun h=>h a2);rw[a3] at h4;refine M.F Tryz.func31 ?_;refine M.w4 @h1 @h2 @h3 @h4 ?_
    rfl
   .rw[decide_eq_false a2] at h3;refine M.F Tryz.func31 ?_;refine M.w3 @h1 @h2 @h3 ?_
    rfl
  .rw[decide_eq_false a1] at h2;refine M.F Tryz.func31 ?_;refine M.w2 @h1 @h2 ?_
   rfl
 .rw[UF he hg,if_pos rfl];obtain⟨a1,a2,a3⟩:=(show(0<=fr/\fr<=16384)/\(0<=by_/\by_<=16384)/\p.A5=true from⟨ZK.1 fun h=>hg (.inl h),ZK.1 fun h=>hg (.inr (.inl h)),by cases h:p.A5 with|true=>rfl|false=>exact absurd (.inr (.inr h)) hg⟩);rw[decide_eq_true a1] at h2;rw[decide_eq_true a2] at h3;rw[a3] at h4;have h5:=Xb p fr by_ dY g4;generalize p.hw fr by_ 0=P at*;refine M.F Tryz.func31 ?_;refine M.w5 @h1 @h2 @h3 @h4 @h5 ?_
  rfl
theorem Yiq(p:Pf)(a:Int)(s:Tm)(hp:p.full<274877906944)(hs:s.full<274877906944):PC E 33 [.agg p.view,.i a,.agg s.view] (.AM [.agg (if Eb p a s=0 then p.pt a s 0 else C4).view,.i (Eb p a s)]):=by
 have h1:=P4 p hp;by_cases he:p.err=0;case neg=>
  rw[Td he,if_neg he];refine M.F Tryz.func33 ?_;(repeat' first|refine M.o1 @h1 ?_|refine M.z1 4 ?_|refine M.cs ?_ ?_<;>intro h|refine M.gk ?_|fail);all_goals first
   |rfl
   |(exfalso;simp at h;exact he h)
   |trace_state
 obtain⟨g1,g2,g3,g4,g5,g6⟩:=vo he;rw[he,g6] at h1;have h2:=LN a 4096;by_cases ha:0<=a/\a<=4096;case neg=>
  rw[decide_eq_false ha] at h2;rw[RD he ha,if_neg ej];refine M.F Tryz.func33 ?_;refine M.w2 @h1 @h2 ?_
  rfl
 rw[decide_eq_true ha] at h2;have h3:=Yi7 s dY;by_cases es:s.err=0;case neg=>
  rw[Ti he ha es,if_neg es];refine M.F Tryz.func33 ?_;(repeat' first|refine M.o3 @h1 @h2 @h3 ?_|refine M.z1 9 ?_|refine M.cs ?_ ?_<;>intro h|refine M.gk ?_|fail);all_goals first
   |rfl
   |(exfalso;simp at h;exact es h)
   |trace_state
 have s1:=(Tm.Ad s).1 es;have s2:=yd es;rw[es,show s.num=s.size by unfold Tm.num;rw[if_pos es]] at h3;have h4:=T0 p dY g4;have h5:=TP s dY;by_cases hn:p.AL=false\/s.near=false
 .rw[TM he ha es hn,if_neg ej];cases hb:p.AL with
  |false=>
   rw[hb] at h4;refine M.F Tryz.func33 ?_;refine M.w4 @h1 @h2 @h3 @h4 ?_
   rfl
  |true=>
   rw[hb] at h4;rw[hn.resolve_left gK] at h5;refine M.F Tryz.func33 ?_;refine M.w5 @h1 @h2 @h3 @h4 @h5 ?_
   rfl
 rw[TH he ha es hn];have n1:p.AL=true:=by cases h:p.AL with|true=>rfl|false=>exact absurd (.inl h) hn
 have n2:s.near=true:=by cases h:s.near with|true=>rfl|false=>exact absurd (.inr h) hn
 rw[n1] at h4;rw[n2] at h5;have hix:=Lv p g1 g2 0 n1;have sp:=s.size_pos;have hG:=YQ a p g2 dY 0;have h6:=Yio a s.size p.size ha dY (by have:=p.size_pos;omega) _ p 0 0 [] (ZB _) dY dY dY g4 (Ue hix dY) g1 g2 (by rw[Z3];exact hG);rw[Z3] at h6;have hbd:=SU (n:=p.size) (k:=s.size) dY dY hG;have h7:=Yh5 p a s dY dY (Wc es n2) dY g4 hix;unfold I1;obtain⟨N0,e1⟩:∃x,x=Di p.size s.size (p.CE (A6 a) (A8 a) 0):=⟨_,rfl⟩;obtain⟨B0,e2⟩:∃x,x=DQ s.size (p.CE (A6 a) (A8 a) 0):=⟨_,rfl⟩;have e3:Di p.size s.size []=p.size:=by simp[Di]
 have e4:DQ s.size []=false:=by simp[DQ]
 rw[<-e1,<-e2,e3,e4] at h6;rw[<-e1,<-e2];generalize p.pt a s 0=P at*;clear e1 e2 hbd hG;cases B0
 .by_cases hN:N0>16384
  .rw[if_pos (Or.inr hN),if_neg ej];refine M.F Tryz.func33 ?_;(repeat' first|refine M.o5 @h1 @h2 @h3 @h4 @h5 ?_|refine M.cv (h6) [6,1,4,5] 0 ?_|refine M.z1 15 ?_|refine M.cs ?_ ?_<;>intro h|refine M.gk ?_|fail);all_goals first
    |rfl
    |(exfalso;simp at h;omega)
    |trace_state
  .rw[if_neg (show ¬(false=true\/N0>16384) by simp;omega),if_pos rfl];refine M.F Tryz.func33 ?_;(repeat' first|refine M.w5 @h1 @h2 @h3 @h4 @h5 ?_|refine M.cv (h6) [6,1,4,5] 0 ?_|refine M.c2 (h7) ?_|refine M.cs ?_ ?_<;>intro h|fail);all_goals first
    |rfl
    |(exfalso;simp at h;omega)
    |trace_state
 .rw[if_pos (Or.inl rfl),if_neg ej];refine M.F Tryz.func33 ?_;(repeat' first|refine M.w5 @h1 @h2 @h3 @h4 @h5 ?_|refine M.cv (h6) [6,1,4,5] 0 ?_|fail)
  rfl
theorem Yeq(p:Pf)(a:Int)(q:Pf)(hp:p.full<274877906944)(hq:q.full<274877906944):PC E 35 [.agg p.view,.i a,.agg q.view] (.AM [.agg (if Fu p a q=0 then Pf.ph a q 0 0 p else C4).view,.i (Fu p a q)]):=by
 have h1:=P4 p hp;by_cases he:p.err=0;case neg=>
  rw[RM he,if_neg he];refine M.F Tryz.func35 ?_;(repeat' first|refine M.o1 @h1 ?_|refine M.z1 4 ?_|refine M.cs ?_ ?_<;>intro h|refine M.gk ?_|fail);all_goals first
   |rfl
   |(exfalso;simp at h;exact he h)
   |trace_state
 obtain⟨g1,g2,g3,g4,g5,g6⟩:=vo he;rw[he,g6] at h1;have h2:=LN a 16384;by_cases ha:0<=a/\a<=16384;case neg=>
  rw[decide_eq_false ha] at h2;rw[Q8 he ha,if_neg ej];refine M.F Tryz.func35 ?_;refine M.w2 @h1 @h2 ?_
  rfl
 rw[decide_eq_true ha] at h2;have h3:=P4 q hq;by_cases es:q.err=0;case neg=>
  rw[Q4 he ha es,if_neg es];refine M.F Tryz.func35 ?_;(repeat' first|refine M.o3 @h1 @h2 @h3 ?_|refine M.z1 9 ?_|refine M.cs ?_ ?_<;>intro h|refine M.gk ?_|fail);all_goals first
   |rfl
   |(exfalso;simp at h;exact es h)
   |trace_state
 obtain⟨s1,s2,s3,s4,s5,s6⟩:=vo es;rw[es,s6] at h3;have h4:=RF p dY g4;have h5:=RF q dY s4;have h6:=T0 q dY s4;by_cases hn:p.A5=false\/q.A5=false\/q.AL=false
 .rw[Vy he ha es hn,if_neg ej];cases hb:p.A5 with
  |false=>
   rw[hb] at h4;refine M.F Tryz.func35 ?_;refine M.w4 @h1 @h2 @h3 @h4 ?_
   rfl
  |true=>
   rw[hb] at h4;cases hb2:q.A5 with
   |false=>
    rw[hb2] at h5;by_cases hpq:p=q
    .subst hpq;rw[hb] at hb2;cases hb2
    refine M.F Tryz.func35 ?_;refine M.w5 @h1 @h2 @h3 @h4 @h5 ?_
    rfl
   |true=>
    rw[hb2] at h5;rw[(hn.resolve_left gK).resolve_left (by simp[hb2])] at h6;refine M.F Tryz.func35 ?_;refine M.w6 @h1 @h2 @h3 @h4 @h5 @h6 ?_
    rfl
 rw[XN he ha es hn];have n1:p.A5=true:=by cases h:p.A5 with|true=>rfl|false=>exact absurd (.inl h) hn
 have n2:q.A5=true:=by cases h:q.A5 with|true=>rfl|false=>exact absurd (.inr (.inl h)) hn
 have n3:q.AL=true:=by cases h:q.AL with|true=>rfl|false=>exact absurd (.inr (.inr h)) hn
 rw[n1] at h4;rw[n2] at h5;rw[n3] at h6;have hx:=Oe p g1 0 n1;have h7:=Zz7 p a dY g4 (Ri hx dY);have hl:=Wj a p 0;have hcl:0<=Hl p a/\Hl p a<=1064960:=by unfold Hl;omega
 have sp:=q.size_pos;have m1:0<=Hl p a*((q.size:Int)-1):=cN hcl.1 dY;have m2:Hl p a*((q.size:Int)-1)<=1064960*16384:=cO hcl.2 dY dY dY;have hm': -9223372036854775808<=Hl p a*((q.size:Int)-1)/\Hl p a*((q.size:Int)-1)<=9223372036854775807:=dY
 have h8:=Yja p a q dY dY s4 dY g4 hx;generalize Pf.ph a q 0 0 p=P at*;by_cases hz:(p.size:Int)+Hl p a*(q.size-1)>16384
 .rw[if_pos hz,if_neg ej];refine M.F Tryz.func35 ?_;(repeat' first|refine M.o6 @h1 @h2 @h3 @h4 @h5 @h6 ?_|refine M.c2 (h7) ?_|refine M.z1 13 ?_|refine M.cs ?_ ?_<;>intro h|refine M.gk ?_|fail);all_goals first
   |rfl
   |(exfalso;simp at h;omega)
   |trace_state
 .rw[if_neg hz,if_pos rfl];refine M.F Tryz.func35 ?_;(repeat' first|refine M.w6 @h1 @h2 @h3 @h4 @h5 @h6 ?_|refine M.c2 (h7) ?_|refine M.c2 (h8) ?_|refine M.cs ?_ ?_<;>intro h|fail);all_goals first
   |rfl
   |(exfalso;simp at h;omega)
   |trace_state
end Go.Ab
namespace Go.Ab
open Go Go.Proofs Go.RowKit
set_option linter.all false
set_option maxRecDepth 100000
theorem Zt2{σ:Aj}{n:Nat}(h:n<σ.nx):AC E 209 [.mp n] σ (.fn (.func 246) [] [.ptr σ.nx 0]) ⟨σ.nx+1,(σ.nx,.var [.mp n])::σ.es⟩:=
 AC.mapKeys (E:=E) (ρ7:=Tryz.D4) Tryz.Kh (enters_of Tryz.func209 ew rfl) h
theorem Zw4{σ:Aj}{n b:Nat}{c:EC}{ks:List Int}{xs:List c.sem}(hb:zg σ.es b=some (.var [.mp n]))(hn:zg σ.es n=some (.map c ks xs))
 (hnd:ks.Nodup) (hwf:∀x∈ks,(Lit.int .i64 x).wf=true) (hmax:ks.length<549755813888):
 AC E 208 [.fn (.func 246) [] [.ptr b 0]] σ (.s .int (yo ks)) σ:=
 AC.Gn (E:=E) (ρ7:=Tryz.D4) (ρ6:=Tryz.Df) Tryz.Kh Tryz.Jn Yby (enters_of Tryz.func208 ew rfl) (enters_of Tryz.func245 ew rfl)
  (enters_of Tryz.func246 ew rfl) ew hb hn hnd hwf (ay (Nat.le_of_lt hmax) ej) dY
end Go.Ab
namespace Go.Ab
open Go Go.Proofs
set_option maxRecDepth 100000
set_option maxHeartbeats 4000000
set_option linter.all false
theorem S8(ks:List Int)(n:Int):AC E 85 [.mp 0,.i n] ⟨1,[(0,.map .bl ks (List.replicate ks.length true))]⟩ (.AM []) ⟨1,[(0,.map .bl (if 0<=n then w9 n ks else ks) (List.replicate (if 0<=n then w9 n ks else ks).length true))]⟩:=by
 by_cases h0:0<=n
 .rw[if_pos h0];refine M.F Tryz.func85 ?_;(repeat' first|refine M.w0 ?_|refine M.cs ?_ ?_<;>intro h|fail);all_goals first|exfalso;simp at h;omega|exact M.n2 Ay (h6:=(by(repeat'(first|exact trivial|refine And.intro ?_ ?_|refine⟨_,U,_,_,U,?_,?_⟩|with_reducible exact rfl|(simp[Aj.Aw,vx];done)));done)) (h8:=jS)
 .rw[if_neg h0];refine M.F Tryz.func85 ?_;(repeat' first|refine M.w0 ?_|refine M.cs ?_ ?_<;>intro h|fail);all_goals first|exfalso;simp at h;omega|exact M.n2 Ay (h8:=jS)
theorem Rk(Xs:List Int)(p:Pf)(v y:Int)(hp:p.kind=1->0<=p.index/\p.index<9223372036854775808)(hy:0<=y/\y<100000000000):
 AC E 91 [.agg p.view,.agg [.i v,.i y],.ptr 0 0] ⟨2,[(0,.var [.mp 1]),(1,.map .bl (Az [] Xs) (List.replicate (Az [] Xs).length true))]⟩ (.AM []) ⟨2,[(0,.var [.mp 1]),(1,.map .bl (Az [] (Xs++CL p.kind p.index y)) (List.replicate (Az [] (Xs++CL p.kind p.index y)).length true))]⟩:=by
 rw[xr];generalize Az [] Xs=ks;unfold CL;by_cases h0:p.kind=1;case neg=>
  rw[if_neg (fun h=>h0 h.1)];refine M.F Tryz.func91 ?_;(repeat' first|refine M.w0 ?_|refine M.cs ?_ ?_<;>intro h|fail);all_goals first|exfalso;simp_all;done|exact M.n2 AQ (h6:=(by(repeat'(first|exact trivial|refine And.intro ?_ ?_|refine⟨_,U,_,U,_,U,?_⟩|exact Ai.refl _|refine⟨_,U,_,_,U,?_,?_⟩|(simp[Aj.Aw,xl];done)));done)) (h8:=jT)
 have hp:=hp h0;have hs:=S8 ks (p.index-y);by_cases h1:p.kind=1/\p.index>=y
 .rw[if_pos h1,KR];rw[if_pos dY] at hs;refine M.F Tryz.func91 ?_;(repeat' first|refine M.w0 ?_|refine M.cb (hs) [1] 0 ?_|refine M.cs ?_ ?_<;>intro h|fail);all_goals first|exfalso;simp_all;done|exact M.n2 AQ (h8:=gT)
 .rw[if_neg h1,xl];rw[if_neg dY] at hs;refine M.F Tryz.func91 ?_;(repeat' first|refine M.w0 ?_|refine M.cb (hs) [1] 0 ?_|refine M.cs ?_ ?_<;>intro h|fail);all_goals first|exfalso;simp_all;done|exact M.n2 AQ (h8:=gT)
theorem SP(Xs:List Int)(p:Pf)(v y:Int)(hp:0<=p.index):
 AC E 94 [.agg p.view,.agg [.i v,.i y],.ptr 0 0] ⟨2,[(0,.var [.mp 1]),(1,.map .bl (Az [] Xs) (List.replicate (Az [] Xs).length true))]⟩ (.AM []) ⟨2,[(0,.var [.mp 1]),(1,.map .bl (Az [] (Xs++CO p.kind p.index y)) (List.replicate (Az [] (Xs++CO p.kind p.index y)).length true))]⟩:=by
 rw[xr];generalize Az [] Xs=ks;unfold CO;by_cases h0:p.kind=2;case neg=>
  rw[if_neg h0];refine M.F Tryz.func94 ?_;(repeat' first|refine M.w0 ?_|refine M.cs ?_ ?_<;>intro h|fail);all_goals first|exfalso;simp_all;done|exact M.n2 AQ (h6:=(by(repeat'(first|exact trivial|refine And.intro ?_ ?_|refine⟨_,U,_,U,_,U,?_⟩|exact Ai.refl _|refine⟨_,U,_,_,U,?_,?_⟩|(simp[Aj.Aw,xl];done)));done)) (h8:=jT)
 have hs:=S8 ks p.index;rw[if_pos h0,KR];rw[if_pos dY] at hs;refine M.F Tryz.func94 ?_;(repeat' first|refine M.w0 ?_|refine M.cb (hs) [1] 0 ?_|refine M.cs ?_ ?_<;>intro h|fail);all_goals first|exfalso;simp_all;done|exact M.n2 AQ (h8:=gT)
theorem Yjy:∀(n:Nat) (p:Pf) (v y:Int) (Xs:List Int),p.full<=n->n<10000000000->(0<=v/\v+2*n<=50000000000)->(0<=y/\y+2*n<=50000000000)->p.nd->p.hx 9223372036854775808->
 AC E 112 [.agg p.view,.agg [.i v,.i y],.agg [.nilf,.nilf,.fn (.func 91) [] [.ptr 0 0]]] ⟨2,[(0,.var [.mp 1]),(1,.map .bl (Az [] (Xs)) (List.replicate (Az [] (Xs)).length true))]⟩ (.AM []) ⟨2,[(0,.var [.mp 1]),(1,.map .bl (Az [] ((Xs++p.B8 (CL) y))) (List.replicate (Az [] ((Xs++p.B8 (CL) y))).length true))]⟩:=by
 intro n;induction n with
 |zero=>intro p v y Xs hz;have:=p.Ac;omega
 |succ n ih=>
 intro p v y Xs hz hn hv hh hs hhx;obtain⟨i1,i2⟩:=(Pf.Br _ p).1 hhx;have hka:0<p.args.length->p.kind≠1:=fun h0 e=>by
  exact l7
 have hre:=p.BE (CL) y;have hsz':=p.Af;have hlen:=zd Pf.full Pf.Ac p.args;have hlen1:=zd Fm.full Fm.Ac p.Aa;have hlen2:=zd Tm.full Tm.Ac p.terms;have hru:=vg p.kind;obtain⟨⟨nd,n1,n4⟩,hpf⟩:=(Pf.Bt p).1 hs;have hal:p.args.length<=2:=by
  exact j7
 have hpl:=fun(m:Nat) (hm:m<=1000000)=>xf p.kind v y nd n1 m hm dY dY;have e2:Dq p.kind=[.bool nd.index,.bool nd.typ,.i nd.terms,.i nd.Aa,.i nd.args,.i (Au p.kind),.i (Ap p.kind),.i (Ar p.kind)]:=fk
 have b1:0<=Ap p.kind/\Ap p.kind<=2:=eT
 have b2:0<=Ar p.kind/\Ar p.kind<=1:=eV
 have b3:0<=Au p.kind/\Au p.kind<=1:=eW
 rw[n1] at hru;simp only[an] at hru;rw[e2] at hru;simp only[e2] at hpl;have hlf:=Rk Xs p v y i1 dY;have hno:nd.index=false->(CL) p.kind p.index y=[]:=fun hi=>by
  exact mR
 obtain⟨X1,hX1⟩:∃X1,X1=Xs++(CL) p.kind p.index y:=⟨_,rfl⟩;obtain⟨x3,x4,x5,ix,x2⟩:=nd;simp only at n4 hru hpl hno;cases ix
 .have hX:X1=Xs:=ic
  refine M.F Tryz.func112 ?_;refine M.w1 @hru ?_;refine M.rt p.terms.length
   (fun m=>([(3,.ptr 2 0),(4,.ptr 3 0),(5,.ptr 4 0),(6,.ptr 5 0),(33,.s .tm p.terms),(34,.i p.terms.length),(35,.i m)],⟨6,[(0,.var [.mp 1]),(1,.map .bl (Az [] (X1)) (List.replicate (Az [] (X1)).length true)),(2,.var p.view),(3,.var [.i v,.i y]),(4,.var [.nilf,.nilf,.fn (.func 91) [] [.ptr 0 0]]),(5,.var [.bool false,.bool x2,.i x3,.i x4,.i x5,.i (Au p.kind),.i (Ap p.kind),.i (Ar p.kind)])]⟩))
   (M.W CZ (he:=(by(repeat'(first|exact trivial|refine And.intro ?_ ?_|refine⟨_,U,_,U,_,U,?_⟩|exact Ai.refl _|refine⟨_,U,_,_,U,?_,?_⟩|(simp[Aj.Aw,hX];done)));done))) ?_ ?_
  .exact j8
  .intro _;skip;refine M.w0 ?_;refine M.rt p.Aa.length
    (fun m=>([(3,.ptr 2 0),(4,.ptr 3 0),(5,.ptr 4 0),(6,.ptr 5 0),(50,.s .fm p.Aa),(51,.i p.Aa.length),(52,.i m)],⟨6,[(0,.var [.mp 1]),(1,.map .bl (Az [] (X1)) (List.replicate (Az [] (X1)).length true)),(2,.var p.view),(3,.var [.i v,.i y]),(4,.var [.nilf,.nilf,.fn (.func 91) [] [.ptr 0 0]]),(5,.var [.bool false,.bool x2,.i x3,.i x4,.i x5,.i (Au p.kind),.i (Ap p.kind),.i (Ar p.kind)])]⟩))
    (M.W CZ) ?_ ?_
   .exact j8
   .intro _;skip;refine M.w0 ?_;refine M.rt p.args.length
     (fun m=>([(3,.ptr 2 0),(4,.ptr 3 0),(5,.ptr 4 0),(6,.ptr 5 0),(70,.s .pf p.args),(71,.i p.args.length),(72,.i m)],⟨6,[(0,.var [.mp 1]),(1,.map .bl (Az [] ((X1++((Pf.AO (CL) y (Ar p.kind) p.args).take m).flatten))) (List.replicate (Az [] ((X1++((Pf.AO (CL) y (Ar p.kind) p.args).take m).flatten))).length true)),(2,.var p.view),(3,.var [.i v,.i y]),(4,.var [.nilf,.nilf,.fn (.func 91) [] [.ptr 0 0]]),(5,.var [.bool false,.bool x2,.i x3,.i x4,.i x5,.i (Au p.kind),.i (Ap p.kind),.i (Ar p.kind)])]⟩))
     (M.W CZ (he:=(by(repeat'(first|exact trivial|refine And.intro ?_ ?_|refine⟨_,U,_,U,_,U,?_⟩|exact Ai.refl _|refine⟨_,U,_,_,U,?_,?_⟩|(simp[Aj.Aw,ZX,Z5,ZY];done)));done))) ?_ ?_
    .intro m hm _;have hs2:=zc Pf.full (ZA hm);have hb:=hpl m dY;have hc:=ih p.args[m] (if m+1=p.args.length then v+Ap p.kind else v) (if m+1=p.args.length then y+Ar p.kind else y) (X1++((Pf.AO (CL) y (Ar p.kind) p.args).take m).flatten) dY dY ez ez (hpf _ (ZA hm)) (i2 (hka dY) _ (ZA hm));have e3:(X1++((Pf.AO (CL) y (Ar p.kind) p.args).take m).flatten)++p.args[m].B8 (CL) (if m+1=p.args.length then y+Ar p.kind else y)=(X1++((Pf.AO (CL) y (Ar p.kind) p.args).take (m+1)).flatten):=by rw[ZE,ue (CL) hm]
     rw[e3] at hc;have ev:(if(m:Int)=(x5:Int)-1 then y+Ar p.kind else y)=(if m+1=p.args.length then y+Ar p.kind else y):=by
      exact jZ
     have ev2:(if(m:Int)=(x5:Int)-1 then v+Ap p.kind else v)=(if m+1=p.args.length then v+Ap p.kind else v):=by
      exact jZ
     rw[ev,ev2] at hb;refine M.w2 @hb @hc ?_;exact⟨rfl,trivial,(M.W CZ)⟩
    .exact j6
 .refine M.F Tryz.func112 ?_;refine M.w2 @hru @hlf ?_;refine M.rt p.terms.length
   (fun m=>([(3,.ptr 2 0),(4,.ptr 3 0),(5,.ptr 4 0),(6,.ptr 5 0),(33,.s .tm p.terms),(34,.i p.terms.length),(35,.i m)],⟨6,[(0,.var [.mp 1]),(1,.map .bl (Az [] (X1)) (List.replicate (Az [] (X1)).length true)),(2,.var p.view),(3,.var [.i v,.i y]),(4,.var [.nilf,.nilf,.fn (.func 91) [] [.ptr 0 0]]),(5,.var [.bool true,.bool x2,.i x3,.i x4,.i x5,.i (Au p.kind),.i (Ap p.kind),.i (Ar p.kind)])]⟩))
   (M.W CZ (he:=(by(repeat'(first|exact trivial|refine And.intro ?_ ?_|refine⟨_,U,_,U,_,U,?_⟩|exact Ai.refl _|refine⟨_,U,_,_,U,?_,?_⟩|(simp[Aj.Aw,hX1];done)));done))) ?_ ?_
  .exact j8
  .intro _;skip;refine M.w0 ?_;refine M.rt p.Aa.length
    (fun m=>([(3,.ptr 2 0),(4,.ptr 3 0),(5,.ptr 4 0),(6,.ptr 5 0),(50,.s .fm p.Aa),(51,.i p.Aa.length),(52,.i m)],⟨6,[(0,.var [.mp 1]),(1,.map .bl (Az [] (X1)) (List.replicate (Az [] (X1)).length true)),(2,.var p.view),(3,.var [.i v,.i y]),(4,.var [.nilf,.nilf,.fn (.func 91) [] [.ptr 0 0]]),(5,.var [.bool true,.bool x2,.i x3,.i x4,.i x5,.i (Au p.kind),.i (Ap p.kind),.i (Ar p.kind)])]⟩))
    (M.W CZ) ?_ ?_
   .exact j8
   .intro _;skip;refine M.w0 ?_;refine M.rt p.args.length
     (fun m=>([(3,.ptr 2 0),(4,.ptr 3 0),(5,.ptr 4 0),(6,.ptr 5 0),(70,.s .pf p.args),(71,.i p.args.length),(72,.i m)],⟨6,[(0,.var [.mp 1]),(1,.map .bl (Az [] ((X1++((Pf.AO (CL) y (Ar p.kind) p.args).take m).flatten))) (List.replicate (Az [] ((X1++((Pf.AO (CL) y (Ar p.kind) p.args).take m).flatten))).length true)),(2,.var p.view),(3,.var [.i v,.i y]),(4,.var [.nilf,.nilf,.fn (.func 91) [] [.ptr 0 0]]),(5,.var [.bool true,.bool x2,.i x3,.i x4,.i x5,.i (Au p.kind),.i (Ap p.kind),.i (Ar p.kind)])]⟩))
     (M.W CZ (he:=(by(repeat'(first|exact trivial|refine And.intro ?_ ?_|refine⟨_,U,_,U,_,U,?_⟩|exact Ai.refl _|refine⟨_,U,_,_,U,?_,?_⟩|(simp[Aj.Aw,ZX,Z5,ZY];done)));done))) ?_ ?_
    .intro m hm _;have hs2:=zc Pf.full (ZA hm);have hb:=hpl m dY;have hc:=ih p.args[m] (if m+1=p.args.length then v+Ap p.kind else v) (if m+1=p.args.length then y+Ar p.kind else y) (X1++((Pf.AO (CL) y (Ar p.kind) p.args).take m).flatten) dY dY ez ez (hpf _ (ZA hm)) (i2 (hka dY) _ (ZA hm));have e3:(X1++((Pf.AO (CL) y (Ar p.kind) p.args).take m).flatten)++p.args[m].B8 (CL) (if m+1=p.args.length then y+Ar p.kind else y)=(X1++((Pf.AO (CL) y (Ar p.kind) p.args).take (m+1)).flatten):=by rw[ZE,ue (CL) hm]
     rw[e3] at hc;have ev:(if(m:Int)=(x5:Int)-1 then y+Ar p.kind else y)=(if m+1=p.args.length then y+Ar p.kind else y):=by
      exact jZ
     have ev2:(if(m:Int)=(x5:Int)-1 then v+Ap p.kind else v)=(if m+1=p.args.length then v+Ap p.kind else v):=by
      exact jZ
     rw[ev,ev2] at hb;refine M.w2 @hb @hc ?_;exact⟨rfl,trivial,(M.W CZ)⟩
    .exact j6
theorem Yjj:∀(n:Nat) (p:Pf) (v y:Int) (Xs:List Int),p.full<=n->n<10000000000->(0<=v/\v+2*n<=50000000000)->(0<=y/\y+2*n<=50000000000)->p.nd->p.shape=true->
 AC E 112 [.agg p.view,.agg [.i v,.i y],.agg [.nilf,.nilf,.fn (.func 94) [] [.ptr 0 0]]] ⟨2,[(0,.var [.mp 1]),(1,.map .bl (Az [] (Xs)) (List.replicate (Az [] (Xs)).length true))]⟩ (.AM []) ⟨2,[(0,.var [.mp 1]),(1,.map .bl (Az [] ((Xs++p.B8 (CO) y))) (List.replicate (Az [] ((Xs++p.B8 (CO) y))).length true))]⟩:=by
 intro n;induction n with
 |zero=>intro p v y Xs hz;have:=p.Ac;omega
 |succ n ih=>
 intro p v y Xs hz hn hv hh hs hsh;have hidx:0<=p.index:=by obtain⟨hh1,_⟩:=zk hsh;obtain⟨_,_,_,_,_,hi,_⟩:=I9 hh1;exact hi
 have hre:=p.BE (CO) y;have hsz':=p.Af;have hlen:=zd Pf.full Pf.Ac p.args;have hlen1:=zd Fm.full Fm.Ac p.Aa;have hlen2:=zd Tm.full Tm.Ac p.terms;have hru:=vg p.kind;obtain⟨⟨nd,n1,n4⟩,hpf⟩:=(Pf.Bt p).1 hs;have hal:p.args.length<=2:=by
  exact j7
 have hpl:=fun(m:Nat) (hm:m<=1000000)=>xf p.kind v y nd n1 m hm dY dY;have e2:Dq p.kind=[.bool nd.index,.bool nd.typ,.i nd.terms,.i nd.Aa,.i nd.args,.i (Au p.kind),.i (Ap p.kind),.i (Ar p.kind)]:=fk
 have b1:0<=Ap p.kind/\Ap p.kind<=2:=eT
 have b2:0<=Ar p.kind/\Ar p.kind<=1:=eV
 have b3:0<=Au p.kind/\Au p.kind<=1:=eW
 rw[n1] at hru;simp only[an] at hru;rw[e2] at hru;simp only[e2] at hpl;have hlf:=SP Xs p v y hidx;have hno:nd.index=false->(CO) p.kind p.index y=[]:=fun hi=>by
  exact mR
 obtain⟨X1,hX1⟩:∃X1,X1=Xs++(CO) p.kind p.index y:=⟨_,rfl⟩;obtain⟨x3,x4,x5,ix,x2⟩:=nd;simp only at n4 hru hpl hno;cases ix
 .have hX:X1=Xs:=ic
  refine M.F Tryz.func112 ?_;refine M.w1 @hru ?_;refine M.rt p.terms.length
   (fun m=>([(3,.ptr 2 0),(4,.ptr 3 0),(5,.ptr 4 0),(6,.ptr 5 0),(33,.s .tm p.terms),(34,.i p.terms.length),(35,.i m)],⟨6,[(0,.var [.mp 1]),(1,.map .bl (Az [] (X1)) (List.replicate (Az [] (X1)).length true)),(2,.var p.view),(3,.var [.i v,.i y]),(4,.var [.nilf,.nilf,.fn (.func 94) [] [.ptr 0 0]]),(5,.var [.bool false,.bool x2,.i x3,.i x4,.i x5,.i (Au p.kind),.i (Ap p.kind),.i (Ar p.kind)])]⟩))
   (M.W CZ (he:=(by(repeat'(first|exact trivial|refine And.intro ?_ ?_|refine⟨_,U,_,U,_,U,?_⟩|exact Ai.refl _|refine⟨_,U,_,_,U,?_,?_⟩|(simp[Aj.Aw,hX];done)));done))) ?_ ?_
  .exact j8
  .intro _;skip;refine M.w0 ?_;refine M.rt p.Aa.length
    (fun m=>([(3,.ptr 2 0),(4,.ptr 3 0),(5,.ptr 4 0),(6,.ptr 5 0),(50,.s .fm p.Aa),(51,.i p.Aa.length),(52,.i m)],⟨6,[(0,.var [.mp 1]),(1,.map .bl (Az [] (X1)) (List.replicate (Az [] (X1)).length true)),(2,.var p.view),(3,.var [.i v,.i y]),(4,.var [.nilf,.nilf,.fn (.func 94) [] [.ptr 0 0]]),(5,.var [.bool false,.bool x2,.i x3,.i x4,.i x5,.i (Au p.kind),.i (Ap p.kind),.i (Ar p.kind)])]⟩))
    (M.W CZ) ?_ ?_
   .exact j8
   .intro _;skip;refine M.w0 ?_;refine M.rt p.args.length
     (fun m=>([(3,.ptr 2 0),(4,.ptr 3 0),(5,.ptr 4 0),(6,.ptr 5 0),(70,.s .pf p.args),(71,.i p.args.length),(72,.i m)],⟨6,[(0,.var [.mp 1]),(1,.map .bl (Az [] ((X1++((Pf.AO (CO) y (Ar p.kind) p.args).take m).flatten))) (List.replicate (Az [] ((X1++((Pf.AO (CO) y (Ar p.kind) p.args).take m).flatten))).length true)),(2,.var p.view),(3,.var [.i v,.i y]),(4,.var [.nilf,.nilf,.fn (.func 94) [] [.ptr 0 0]]),(5,.var [.bool false,.bool x2,.i x3,.i x4,.i x5,.i (Au p.kind),.i (Ap p.kind),.i (Ar p.kind)])]⟩))
     (M.W CZ (he:=(by(repeat'(first|exact trivial|refine And.intro ?_ ?_|refine⟨_,U,_,U,_,U,?_⟩|exact Ai.refl _|refine⟨_,U,_,_,U,?_,?_⟩|(simp[Aj.Aw,ZX,Z5,ZY];done)));done))) ?_ ?_
    .intro m hm _;have hs2:=zc Pf.full (ZA hm);have hb:=hpl m dY;have hc:=ih p.args[m] (if m+1=p.args.length then v+Ap p.kind else v) (if m+1=p.args.length then y+Ar p.kind else y) (X1++((Pf.AO (CO) y (Ar p.kind) p.args).take m).flatten) dY dY ez ez (hpf _ (ZA hm)) ((zk hsh).2.2.2 _ (ZA hm));have e3:(X1++((Pf.AO (CO) y (Ar p.kind) p.args).take m).flatten)++p.args[m].B8 (CO) (if m+1=p.args.length then y+Ar p.kind else y)=(X1++((Pf.AO (CO) y (Ar p.kind) p.args).take (m+1)).flatten):=by rw[ZE,ue (CO) hm]
     rw[e3] at hc;have ev:(if(m:Int)=(x5:Int)-1 then y+Ar p.kind else y)=(if m+1=p.args.length then y+Ar p.kind else y):=by
      exact jZ
     have ev2:(if(m:Int)=(x5:Int)-1 then v+Ap p.kind else v)=(if m+1=p.args.length then v+Ap p.kind else v):=by
      exact jZ
     rw[ev,ev2] at hb;refine M.w2 @hb @hc ?_;exact⟨rfl,trivial,(M.W CZ)⟩
    .exact j6
 .refine M.F Tryz.func112 ?_;refine M.w2 @hru @hlf ?_;refine M.rt p.terms.length
   (fun m=>([(3,.ptr 2 0),(4,.ptr 3 0),(5,.ptr 4 0),(6,.ptr 5 0),(33,.s .tm p.terms),(34,.i p.terms.length),(35,.i m)],⟨6,[(0,.var [.mp 1]),(1,.map .bl (Az [] (X1)) (List.replicate (Az [] (X1)).length true)),(2,.var p.view),(3,.var [.i v,.i y]),(4,.var [.nilf,.nilf,.fn (.func 94) [] [.ptr 0 0]]),(5,.var [.bool true,.bool x2,.i x3,.i x4,.i x5,.i (Au p.kind),.i (Ap p.kind),.i (Ar p.kind)])]⟩))
   (M.W CZ (he:=(by(repeat'(first|exact trivial|refine And.intro ?_ ?_|refine⟨_,U,_,U,_,U,?_⟩|exact Ai.refl _|refine⟨_,U,_,_,U,?_,?_⟩|(simp[Aj.Aw,hX1];done)));done))) ?_ ?_
  .exact j8
  .intro _;skip;refine M.w0 ?_;refine M.rt p.Aa.length
    (fun m=>([(3,.ptr 2 0),(4,.ptr 3 0),(5,.ptr 4 0),(6,.ptr 5 0),(50,.s .fm p.Aa),(51,.i p.Aa.length),(52,.i m)],⟨6,[(0,.var [.mp 1]),(1,.map .bl (Az [] (X1)) (List.replicate (Az [] (X1)).length true)),(2,.var p.view),(3,.var [.i v,.i y]),(4,.var [.nilf,.nilf,.fn (.func 94) [] [.ptr 0 0]]),(5,.var [.bool true,.bool x2,.i x3,.i x4,.i x5,.i (Au p.kind),.i (Ap p.kind),.i (Ar p.kind)])]⟩))
    (M.W CZ) ?_ ?_
   .exact j8
   .intro _;skip;refine M.w0 ?_;refine M.rt p.args.length
     (fun m=>([(3,.ptr 2 0),(4,.ptr 3 0),(5,.ptr 4 0),(6,.ptr 5 0),(70,.s .pf p.args),(71,.i p.args.length),(72,.i m)],⟨6,[(0,.var [.mp 1]),(1,.map .bl (Az [] ((X1++((Pf.AO (CO) y (Ar p.kind) p.args).take m).flatten))) (List.replicate (Az [] ((X1++((Pf.AO (CO) y (Ar p.kind) p.args).take m).flatten))).length true)),(2,.var p.view),(3,.var [.i v,.i y]),(4,.var [.nilf,.nilf,.fn (.func 94) [] [.ptr 0 0]]),(5,.var [.bool true,.bool x2,.i x3,.i x4,.i x5,.i (Au p.kind),.i (Ap p.kind),.i (Ar p.kind)])]⟩))
     (M.W CZ (he:=(by(repeat'(first|exact trivial|refine And.intro ?_ ?_|refine⟨_,U,_,U,_,U,?_⟩|exact Ai.refl _|refine⟨_,U,_,_,U,?_,?_⟩|(simp[Aj.Aw,ZX,Z5,ZY];done)));done))) ?_ ?_
    .intro m hm _;have hs2:=zc Pf.full (ZA hm);have hb:=hpl m dY;have hc:=ih p.args[m] (if m+1=p.args.length then v+Ap p.kind else v) (if m+1=p.args.length then y+Ar p.kind else y) (X1++((Pf.AO (CO) y (Ar p.kind) p.args).take m).flatten) dY dY ez ez (hpf _ (ZA hm)) ((zk hsh).2.2.2 _ (ZA hm));have e3:(X1++((Pf.AO (CO) y (Ar p.kind) p.args).take m).flatten)++p.args[m].B8 (CO) (if m+1=p.args.length then y+Ar p.kind else y)=(X1++((Pf.AO (CO) y (Ar p.kind) p.args).take (m+1)).flatten):=by rw[ZE,ue (CO) hm]
     rw[e3] at hc;have ev:(if(m:Int)=(x5:Int)-1 then y+Ar p.kind else y)=(if m+1=p.args.length then y+Ar p.kind else y):=by
      exact jZ
     have ev2:(if(m:Int)=(x5:Int)-1 then v+Ap p.kind else v)=(if m+1=p.args.length then v+Ap p.kind else v):=by
      exact jZ
     rw[ev,ev2] at hb;refine M.w2 @hb @hc ?_;exact⟨rfl,trivial,(M.W CZ)⟩
    .exact j6
theorem Ss(ks:List Int)(hnd:ks.Nodup)(hwf:∀x∈ks,(Lit.int .i64 x).wf=true)(hmax:ks.length<549755813888):AC E 147 [.mp 0] ⟨1,[(0,.map .bl ks (List.replicate ks.length true))]⟩ (.s .int (yo ks)) ⟨1,[(0,.map .bl ks (List.replicate ks.length true))]⟩:=by
 have hk:AC E 209 [.mp 0] ⟨1,[(0,.map .bl ks (List.replicate ks.length true))]⟩ (.fn (.func 246) [] [.ptr 1 0]) ⟨2,[(1,.var [.mp 0]),(0,.map .bl ks (List.replicate ks.length true))]⟩:=Zt2 dZ;have hs:AC E 208 [.fn (.func 246) [] [.ptr 0 0]] ⟨2,[(0,.var [.mp 1]),(1,.map .bl ks (List.replicate ks.length true))]⟩ (.s .int (yo ks)) ⟨2,[(0,.var [.mp 1]),(1,.map .bl ks (List.replicate ks.length true))]⟩:=Zw4 (c:= .bl) rfl rfl hnd hwf hmax;refine M.F Tryz.func147 ?_;(repeat' first|refine M.w0 ?_|refine M.cb (hk) [0] 1 ?_|refine M.cb (hs) [1,0] 0 ?_|fail)
 (exact M.n2 Ay (h8:=gT))
theorem Yk1(ks:List Int):AC E 90 [.mp 0] ⟨1,[(0,.map .bl ks (List.replicate ks.length true))]⟩ (.agg [.nilf,.nilf,.fn (.func 91) [] [.ptr 1 0]]) ⟨2,[(0,.map .bl ks (List.replicate ks.length true)),(1,.var [.mp 0])]⟩:=by
 refine M.F Tryz.func90 ?_;refine M.w0 ?_;refine K.rt AQ rfl rfl rfl rfl rfl ?_ rfl ?_
 ·exact ko
 .exact me
theorem Yk3(ks:List Int):AC E 93 [.mp 0] ⟨1,[(0,.map .bl ks (List.replicate ks.length true))]⟩ (.agg [.nilf,.nilf,.fn (.func 94) [] [.ptr 1 0]]) ⟨2,[(0,.map .bl ks (List.replicate ks.length true)),(1,.var [.mp 0])]⟩:=by
 refine M.F Tryz.func93 ?_;refine M.w0 ?_;refine K.rt AQ rfl rfl rfl rfl rfl ?_ rfl ?_
 ·exact ko
 .exact me
theorem S7(p:Pf)(hp:p.full<274877906944)(hx:p.err=0->p.hx 9223372036854775808):PC E 19 [.agg p.view] (.AM [.s .int (if p.err=0 then G8 p else []),.i p.err]):=by
 have h1:=vv p hp;have hcol:PC E 80 [.agg p.view,.fn (.func 90) [] []] (.AM [.s .int (if p.err=0 then G8 p else []),.i p.err]):=by
  by_cases he:p.err=0;case neg=>
   exact kS
  obtain⟨g1,g2,g3,g4,g5,g6⟩:=vo he;rw[if_pos he];rw[he] at h1 ⊢;have hv:=Yk1 [];have hc:=Yjy _ p 0 0 [] (ZB _) dY dY dY g4 (hx he);rw[Z3] at hc;obtain⟨hwf,hlen⟩:=Yir p g1 dY (hx he);have hnd:(Az [] (p.B8 CL 0)).Nodup:=wh bp;have hs:=Ss (Az [] (p.B8 CL 0)) hnd hwf hlen;have e:G8 p=yo (Az [] (p.B8 CL 0)):=by unfold G8;rw[Yke]
  rw[e];have e0:Az [] []=[]:=rfl;rw[e0] at hc;simp only[Z7,bf] at hc hv;generalize Az [] (p.B8 CL 0)=ks at*;refine M.F Tryz.func80 ?_;(repeat' first|refine M.w1 @h1 ?_|refine M.cv (hv) [1] 1 ?_|refine M.cv (hc) [2,1] 0 ?_|refine M.cb (hs) [1] 0 ?_|fail);all_goals first
   |rfl
   |trace_state
 generalize (if p.err=0 then G8 p else [])=R at*;refine M.F Tryz.func19 ?_;refine M.w1 @hcol ?_
 rfl
theorem Zw9(p:Pf)(hp:p.full<274877906944)(hx:p.err=0->p.lx 9223372036854775808):PC E 21 [.agg p.view] (.AM [.s .int (if p.err=0 then H7 p else []),.i p.err]):=by
 have h1:=vv p hp;have hcol:PC E 80 [.agg p.view,.fn (.func 93) [] []] (.AM [.s .int (if p.err=0 then H7 p else []),.i p.err]):=by
  by_cases he:p.err=0;case neg=>
   exact kS
  obtain⟨g1,g2,g3,g4,g5,g6⟩:=vo he;rw[if_pos he];rw[he] at h1 ⊢;have hv:=Yk3 [];have hc:=Yjj _ p 0 0 [] (ZB _) dY dY dY g4 g1;rw[Z3] at hc;obtain⟨hwf,hlen⟩:=Yh8 p g1 dY (hx he);have hnd:(Az [] (p.B8 CO 0)).Nodup:=wh bp;have hs:=Ss (Az [] (p.B8 CO 0)) hnd hwf hlen;have e:H7 p=yo (Az [] (p.B8 CO 0)):=by unfold H7;rw[Yj2]
  rw[e];have e0:Az [] []=[]:=rfl;rw[e0] at hc;simp only[Z7,bf] at hc hv;generalize Az [] (p.B8 CO 0)=ks at*;refine M.F Tryz.func80 ?_;(repeat' first|refine M.w1 @h1 ?_|refine M.cv (hv) [1] 1 ?_|refine M.cv (hc) [2,1] 0 ?_|refine M.cb (hs) [1] 0 ?_|fail);all_goals first
   |rfl
   |trace_state
 generalize (if p.err=0 then H7 p else [])=R at*;refine M.F Tryz.func21 ?_;refine M.w1 @hcol ?_
 rfl
theorem UD:∀l:List (Tm×Int),BS (EK l)=l.flatMap fun p=>BS (p.1.vars p.2)
 |[]=>rfl
 |p::l=>by
  have e:EK (p::l)=p.1.vars p.2++EK l:=by simp[EK]
  rw[e,Ji,UD l,Z1]
theorem W8{f:Fm}(h:∀p∈f.AZ 0,∀q∈p.1.vars 0,0<=q.1/\q.1<9223372036854775808):f.B7:=fun b p hp=>by
 obtain⟨q,hq,e⟩:=O7 (b':=0) p hp;rw[<-e];exact Tm.Ep (h q hq)
end Go.Ab
