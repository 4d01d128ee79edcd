/- A part of the proofs of this seat. No conditions. -/
import Derived.Test.YtpnbmjgblakifaaGreatDoorST4
namespace Go.Ab
open Go Go.Proofs
set_option maxRecDepth 100000
set_option maxHeartbeats 4000000
set_option linter.all false
theorem Qa(p:Pf)(hp:p.full<5000000000)(hs:p.nd):PC E 102 [.agg p.view] (.bool p.AZ):=by
 have hc:=Yhi _ p 0 0 [] (Nat.le_refl _) (by omega) (by omega) (by omega) hs;rw[List.nil_append] at hc;unfold Pf.AZ;generalize (p.B3 C5 0).all id=b at*;refine M.F Tryz.func102 ?_;(repeat' first|refine M.gw ?_|refine M.cv (hc) [1] 0 ?_|fail);simp[zj,V.wk,V.Ap,za,Ty.view,Tm.view]
theorem Yb0(p:Pf)(a:Int)(hp:p.full<1000000000)(hs:p.nd)(hx:p.hx 9223372036854775808):PC E 103 [.agg p.view,.i a] (.i (D6 p a)):=by
 have hl:=Uf a p 0;have hc:=Yj4 a _ p 0 0 [] (Nat.le_refl _) (by omega) (by omega) (by omega) hs hx (by rw[List.nil_append];omega);rw[List.nil_append] at hc;unfold D6;generalize (p.B3 (Cq a) 0).length=n at*;refine M.F Tryz.func103 ?_;(repeat' first|refine M.gw ?_|refine M.cv (hc) [1,2] 0 ?_|fail);simp[zj,V.wk,V.Ap,za,Ty.view,Tm.view]
theorem M5(n m:Int):PC E 78 [.i n,.i m] (.bool (decide (0<=n/\n<=m))):=by
 by_cases h1:0<=n
 ·by_cases h2:n<=m
  ·rw[decide_eq_true ⟨h1,h2⟩];refine M.F Tryz.func78 ?_;(repeat' first|refine M.gw ?_|refine M.gs ?_ ?_<;>intro h|fail);all_goals first|simp[zj,V.wk];omega|exfalso;simp at*;omega|simp[zj,V.wk,h1,h2];done
  ·rw[decide_eq_false (by omega)];refine M.F Tryz.func78 ?_;(repeat' first|refine M.gw ?_|refine M.gs ?_ ?_<;>intro h|fail);all_goals first|exfalso;simp at*;omega|simp[zj,V.wk,h1,h2];done|simp[zj,V.wk];omega
 ·rw[decide_eq_false (by omega)];refine M.F Tryz.func78 ?_;(repeat' first|refine M.gw ?_|refine M.gs ?_ ?_<;>intro h|fail);all_goals first|exfalso;simp at*;omega|simp[zj,V.wk,h1];done|simp[zj,V.wk];omega
theorem R7(p:Pf)(hp:p.full<274877906944):PC E 81 [.agg p.view] (.Az [.i p.num,.i p.err]):=by
 have h:=Tq p hp;refine M.F Tryz.func81 ?_;(repeat' first|refine M.gw ?_|refine M.c2 (h) ?_|fail)
 rfl
theorem LA{p:Pf}(h:p.err=0):p.shape=true/\p.small=true/\p.size<=16384/\p.nd/\p.full<=1064960/\p.num=p.size:=by
 have h1:=(Pf.Ae p).1 h;have h2:=KA p h1.1;exact⟨h1.1,h1.2.1,h1.2.2,Gq p h1.1,by omega,by unfold Pf.num;rw[if_pos h]⟩
theorem Yv(p:Pf)(a:Int)(s:Tm)(hp:p.full<274877906944)(hs:s.full<274877906944):PC E 28 [.agg p.view,.i a,.agg s.view] (.Az [.agg (if x7 p a s=0 then p.pt a s 0 else Bc).view,.i (x7 p a s)]):=by
 have h1:=R7 p hp;by_cases he:p.err=0;case neg=>
  rw[Oz he,if_neg he];refine M.F Tryz.func28 ?_;(repeat' first|refine M.go ?_|refine M.c2 (h1) ?_|refine M.z1 4 ?_|refine M.cs ?_ ?_<;>intro h|refine M.gk ?_|fail);all_goals first
   |rfl
   |(exfalso;simp at h;exact he h)
   |trace_state
 obtain⟨g1,g2,g3,g4,g5,g6⟩:=LA he;rw[he,g6] at h1;have h2:=M5 a 4096;by_cases ha:0<=a/\a<=4096;case neg=>
  rw[decide_eq_false ha] at h2;rw[Wa he ha,if_neg (by decide)];refine M.F Tryz.func28 ?_;(repeat' first|refine M.gw ?_|refine M.c2 (h1) ?_|refine M.c2 (h2) ?_|fail)
  rfl
 rw[decide_eq_true ha] at h2;have h3:=Yh6 s (by omega);by_cases es:s.err=0;case neg=>
  rw[VW he ha es,if_neg es];refine M.F Tryz.func28 ?_;(repeat' first|refine M.go ?_|refine M.c2 (h1) ?_|refine M.c2 (h2) ?_|refine M.c2 (h3) ?_|refine M.z1 9 ?_|refine M.cs ?_ ?_<;>intro h|refine M.gk ?_|fail);all_goals first
   |rfl
   |(exfalso;simp at h;exact es h)
   |trace_state
 have s1:=(Tm.Ae s).1 es;have s2:=z9 es;rw[es,show s.num=s.size by unfold Tm.num;rw[if_pos es]] at h3;have h4:=ND p (by omega) g4;have h5:=M7 s (by omega);by_cases hn:p.AN=false\/s.near=false
 ·rw[Wc he ha es hn,if_neg (by decide)];cases hb:p.AN with
  |false=>
   rw[hb] at h4;refine M.F Tryz.func28 ?_;(repeat' first|refine M.gw ?_|refine M.c2 (h1) ?_|refine M.c2 (h2) ?_|refine M.c2 (h3) ?_|refine M.c2 (h4) ?_|fail)
   rfl
  |true=>
   rw[hb] at h4;rw[hn.resolve_left (by simp[hb])] at h5;refine M.F Tryz.func28 ?_;(repeat' first|refine M.gw ?_|refine M.c2 (h1) ?_|refine M.c2 (h2) ?_|refine M.c2 (h3) ?_|refine M.c2 (h4) ?_|refine M.c2 (h5) ?_|fail)
   rfl
 rw[Ns he ha es hn];have n1:p.AN=true:=by cases h:p.AN with|true=>rfl|false=>exact absurd (.inl h) hn
 have n2:s.near=true:=by cases h:s.near with|true=>rfl|false=>exact absurd (.inr h) hn
 rw[n1] at h4;rw[n2] at h5;have hix:=V9 p g1 g2 0 n1;have sp:=s.size_pos;have hG:=Yk2 a p g2 (by omega) 0;have h6:=Yhs a s.size p.size ha (by omega) (by have:=p.size_pos;omega) _ p 0 0 [] (Nat.le_refl _) (by omega) (by omega) (by omega) g4 (vr hix (by omega)) g1 g2 (by rw[List.nil_append];exact hG);rw[List.nil_append] at h6;have hbd:=O5 (n:=p.size) (k:=s.size) (by omega) (by omega) hG;have h7:=Yid p a s (by omega) (by omega) (Sf es n2) (by omega) g4 hix;unfold EK;obtain⟨N0,e1⟩:∃x,x=CE p.size s.size (p.Dg (BE a) (BK a) 0):=⟨_,rfl⟩;obtain⟨B0,e2⟩:∃x,x=CP s.size (p.Dg (BE a) (BK a) 0):=⟨_,rfl⟩;have e3:CE p.size s.size []=p.size:=by simp[CE]
 have e4:CP s.size []=false:=by simp[CP]
 rw[<-e1,<-e2,e3,e4] at h6;rw[<-e1,<-e2];generalize p.pt a s 0=P at*;clear e1 e2 hbd hG;cases B0
 ·by_cases hN:N0>16384
  ·rw[if_pos (Or.inr hN),if_neg (by decide)];refine M.F Tryz.func28 ?_;(repeat' first|refine M.go ?_|refine M.c2 (h1) ?_|refine M.c2 (h2) ?_|refine M.c2 (h3) ?_|refine M.c2 (h4) ?_|refine M.c2 (h5) ?_|refine M.cv (h6) [6,1,4,5] 0 ?_|refine M.z1 15 ?_|refine M.cs ?_ ?_<;>intro h|refine M.gk ?_|fail);all_goals first
    |rfl
    |(exfalso;simp at h;omega)
    |trace_state
  ·rw[if_neg (show ¬(false=true\/N0>16384) by simp;omega),if_pos rfl];refine M.F Tryz.func28 ?_;(repeat' first|refine M.gw ?_|refine M.c2 (h1) ?_|refine M.c2 (h2) ?_|refine M.c2 (h3) ?_|refine M.c2 (h4) ?_|refine M.c2 (h5) ?_|refine M.cv (h6) [6,1,4,5] 0 ?_|refine M.c2 (h7) ?_|refine M.cs ?_ ?_<;>intro h|fail);all_goals first
    |rfl
    |(exfalso;simp at h;omega)
    |trace_state
 ·rw[if_pos (Or.inl rfl),if_neg (by decide)];refine M.F Tryz.func28 ?_;(repeat' first|refine M.gw ?_|refine M.c2 (h1) ?_|refine M.c2 (h2) ?_|refine M.c2 (h3) ?_|refine M.c2 (h4) ?_|refine M.c2 (h5) ?_|refine M.cv (h6) [6,1,4,5] 0 ?_|fail)
  rfl
theorem Xx(p:Pf)(a:Int)(q:Pf)(hp:p.full<274877906944)(hq:q.full<274877906944):PC E 31 [.agg p.view,.i a,.agg q.view] (.Az [.agg (if va p a q=0 then Pf.ph a q 0 0 p else Bc).view,.i (va p a q)]):=by
 have h1:=R7 p hp;by_cases he:p.err=0;case neg=>
  rw[OR he,if_neg he];refine M.F Tryz.func31 ?_;(repeat' first|refine M.go ?_|refine M.c2 (h1) ?_|refine M.z1 4 ?_|refine M.cs ?_ ?_<;>intro h|refine M.gk ?_|fail);all_goals first
   |rfl
   |(exfalso;simp at h;exact he h)
   |trace_state
 obtain⟨g1,g2,g3,g4,g5,g6⟩:=LA he;rw[he,g6] at h1;have h2:=M5 a 16384;by_cases ha:0<=a/\a<=16384;case neg=>
  rw[decide_eq_false ha] at h2;rw[Ur he ha,if_neg (by decide)];refine M.F Tryz.func31 ?_;(repeat' first|refine M.gw ?_|refine M.c2 (h1) ?_|refine M.c2 (h2) ?_|fail)
  rfl
 rw[decide_eq_true ha] at h2;have h3:=R7 q hq;by_cases es:q.err=0;case neg=>
  rw[Ol he ha es,if_neg es];refine M.F Tryz.func31 ?_;(repeat' first|refine M.go ?_|refine M.c2 (h1) ?_|refine M.c2 (h2) ?_|refine M.c2 (h3) ?_|refine M.z1 9 ?_|refine M.cs ?_ ?_<;>intro h|refine M.gk ?_|fail);all_goals first
   |rfl
   |(exfalso;simp at h;exact es h)
   |trace_state
 obtain⟨s1,s2,s3,s4,s5,s6⟩:=LA es;rw[es,s6] at h3;have h4:=Qa p (by omega) g4;have h5:=Qa q (by omega) s4;have h6:=ND q (by omega) s4;by_cases hn:p.AZ=false\/q.AZ=false\/q.AN=false
 ·rw[Xm he ha es hn,if_neg (by decide)];cases hb:p.AZ with
  |false=>
   rw[hb] at h4;refine M.F Tryz.func31 ?_;(repeat' first|refine M.gw ?_|refine M.c2 (h1) ?_|refine M.c2 (h2) ?_|refine M.c2 (h3) ?_|refine M.c2 (h4) ?_|fail)
   rfl
  |true=>
   rw[hb] at h4;cases hb2:q.AZ with
   |false=>
    rw[hb2] at h5;by_cases hpq:p=q
    ·subst hpq;rw[hb] at hb2;cases hb2
    refine M.F Tryz.func31 ?_;(repeat' first|refine M.gw ?_|refine M.c2 (h1) ?_|refine M.c2 (h2) ?_|refine M.c2 (h3) ?_|refine M.c2 (h4) ?_|refine M.c2 (h5) ?_|fail)
    rfl
   |true=>
    rw[hb2] at h5;rw[(hn.resolve_left (by simp[hb])).resolve_left (by simp[hb2])] at h6;refine M.F Tryz.func31 ?_;(repeat' first|refine M.gw ?_|refine M.c2 (h1) ?_|refine M.c2 (h2) ?_|refine M.c2 (h3) ?_|refine M.c2 (h4) ?_|refine M.c2 (h5) ?_|refine M.c2 (h6) ?_|fail)
    rfl
 rw[Nt he ha es hn];have n1:p.AZ=true:=by cases h:p.AZ with|true=>rfl|false=>exact absurd (.inl h) hn
 have n2:q.AZ=true:=by cases h:q.AZ with|true=>rfl|false=>exact absurd (.inr (.inl h)) hn
 have n3:q.AN=true:=by cases h:q.AN with|true=>rfl|false=>exact absurd (.inr (.inr h)) hn
 rw[n1] at h4;rw[n2] at h5;rw[n3] at h6;have hx:=TG p g1 0 n1;have h7:=Yb0 p a (by omega) g4 (J7 hx (by omega));have hl:=Uf a p 0;have hcl:0<=D6 p a/\D6 p a<=1064960:=by unfold D6;omega
 have sp:=q.size_pos;have m1:0<=D6 p a*((q.size:Int)-1):=Int.mul_nonneg hcl.1 (by omega);have m2:D6 p a*((q.size:Int)-1)<=1064960*16384:=Int.mul_le_mul hcl.2 (by omega) (by omega) (by omega);have hm': -9223372036854775808<=D6 p a*((q.size:Int)-1)/\D6 p a*((q.size:Int)-1)<=9223372036854775807:=by omega
 have h8:=Yhk p a q (by omega) (by omega) s4 (by omega) g4 hx;generalize Pf.ph a q 0 0 p=P at*;by_cases hz:(p.size:Int)+D6 p a*(q.size-1)>16384
 ·rw[if_pos hz,if_neg (by decide)];refine M.F Tryz.func31 ?_;(repeat' first|refine M.go ?_|refine M.c2 (h1) ?_|refine M.c2 (h2) ?_|refine M.c2 (h3) ?_|refine M.c2 (h4) ?_|refine M.c2 (h5) ?_|refine M.c2 (h6) ?_|refine M.c2 (h7) ?_|refine M.z1 13 ?_|refine M.cs ?_ ?_<;>intro h|refine M.gk ?_|fail);all_goals first
   |rfl
   |(exfalso;simp at h;omega)
   |trace_state
 ·rw[if_neg hz,if_pos rfl];refine M.F Tryz.func31 ?_;(repeat' first|refine M.gw ?_|refine M.c2 (h1) ?_|refine M.c2 (h2) ?_|refine M.c2 (h3) ?_|refine M.c2 (h4) ?_|refine M.c2 (h5) ?_|refine M.c2 (h6) ?_|refine M.c2 (h7) ?_|refine M.c2 (h8) ?_|refine M.cs ?_ ?_<;>intro h|fail);all_goals first
   |rfl
   |(exfalso;simp at h;omega)
   |trace_state
def K1(l:List Ch)(ok:Bool)(p:Pf):Pf×Int:=if xw Ch.err l≠0 then(Bc,xw Ch.err l) else if ok=false then(Bc,4) else WX p
def VY(a b:Fm):Int:=if Ou a 0 1≠0 then Ou a 0 1 else if Ou b 0 1≠0 then Ou b 0 1 else(Jb a b).err
def lftR(a b:Fm)(p:Pf):Pf×Int:=K1 [.fm a,.fm b,.pf p] (decide (VY a b=0/\(E5 b.dp 262144 b 0).2>=0)) (Mu a b p (E5 b.dp 262144 b 0).1)
def rgtR(a b:Fm)(p:Pf):Pf×Int:=K1 [.fm a,.fm b,.pf p] (decide (VY a b=0/\(E5 a.dp 262144 a 0).2>=0)) (L3 a b p (E5 a.dp 262144 a 0).1)
def casR(a b d:Fm)(p q r:Pf):Pf×Int:=Qs [.fm a,.fm b,.fm d,.pf p,.pf q,.pf r] (WC a b d p q r)
def numR(f:Fm)(p q:Pf):Pf×Int:=Qs [.fm f,.pf p,.pf q] (P7 f p q)
def lisR(f:Fm)(p q:Pf):Pf×Int:=Qs [.fm f,.pf p,.pf q] (Yg8 f p q)
mutual
def Tm.Iy:Tm->Bool
 | .mk _ i _ xs=>decide (0<=i)&&decide (i<1000)&&Tm.E3 xs
def Tm.E3:List Tm->Bool
 |[]=>true
 |t::l=>t.Iy&&Tm.E3 l
end
mutual
def Fm.Iy:Fm->Bool
 | .mk _ _ ts zs=>ts.all Tm.Iy&&Fm.E3 zs
def Fm.E3:List Fm->Bool
 |[]=>true
 |t::l=>t.Iy&&Fm.E3 l
end
mutual
def Pf.Iy:Pf->Bool
 | .mk _ i _ ts fs zs=>decide (0<=i)&&decide (i<1000)&&ts.all Tm.Iy&&fs.all Fm.Iy&&Pf.E3 zs
def Pf.E3:List Pf->Bool
 |[]=>true
 |t::l=>t.Iy&&Pf.E3 l
end
def atP(i j:Int):Pf:=Rt (xn i) (Rt (xn j) eqP)
def oneF(i j:Int):Fm:=Fc (xn j) (xn i)
theorem Gf.up{g:List Ty}{f:Fm}{n m:Nat}(h:Gf g f n)(hm:n<=m):Gf g f m:=⟨h.sh,Nat.le_trans h.sz hm,h.ok⟩
def earI(a b:Int):Int:=if a≠0 then a else b
theorem Jm(i:Int):PC E 40 [.i i] (.agg (xo i).view):=by
 refine M.F Tryz.func40 ?_;(repeat' first|refine M.gw ?_|fail)
 rfl
theorem XY(t:Tm)(he:t.shape=true)(hf:t.full<100000000000)(hix:∀p∈t.vars 0,0<=p.1/\p.1<549755813888):PC E 207 [.agg t.view,.i 1] (.agg (t.re (zl 0 1) 0).view):=by
 have h:=PU 1 (by omega) _ t 0 (Nat.le_refl _) (by omega) (by omega) (by omega) he hix;generalize t.re (zl 0 1) 0=u at*;refine M.F Tryz.func207 ?_;(repeat' first|refine M.gw ?_|refine M.c2 (h) ?_|fail);simp[zj,V.wk,V.Ap,za,Ty.view,Tm.view]
theorem Zy3(g s:Tm)(p:Pf)(hg:C2 g)(hs:C2 s)(hp:p.full<100000000000):PC E 169 [.agg g.view,.agg s.view,.agg p.view] (.agg (IE g s p).view):=by
 have f1:=hg.2.2;have f2:=hs.2.2;have l1:=Jw 0 1 g 0 hg.1;have l2:=Jw 0 1 s 0 hs.1;have h1:=XY g hg.1 (by omega) (fun q hq=>by have:=hg.2.1 q hq;omega);have h2:=XY s hs.1 (by omega) (fun q hq=>by have:=hs.2.1 q hq;omega);have h3:=Ex 0;have h4:=CJ 3 [g,s] (by simp;omega);unfold IE Gv xe;generalize g.re (zl 0 1) 0=g1 at*;generalize s.re (zl 0 1) 0=s1 at*;have h5:=CJ 3 [g1,s1] (by simp;omega);have h6:=CJ 3 [g1,vT 0] (by simp[Kz];omega);have h7:=GO (AO g1 s1) (AO g1 (vT 0)) (by rw[KE];omega) (by rw[KE,Kz];omega);have h8:=x8 (AO g s) (by rw[KE];omega);have h9:=UN (AP (AO g1 s1) (AO g1 (vT 0))) p (.mk 18 0 (.mk 0 []) [AO g s] [] []) (by rw[Nx,KE,KE,Kz];omega) (by omega) (by rw[wr,GA];simp[KE];omega);refine M.F Tryz.func169 ?_;(repeat' first|refine M.gw ?_|refine M.c2 (h1) ?_|refine M.c2 (h2) ?_|refine M.c2 (h3) ?_|refine M.c2 (h4) ?_|refine M.c2 (h5) ?_|refine M.c2 (h6) ?_|refine M.c2 (h7) ?_|refine M.c2 (h8) ?_|refine M.c2 (h9) ?_|fail);all_goals first
  |rfl
  |trace_state
theorem Zpa(ts:List Tm)(p:Pf)(ht:∀t∈ts,t.err=0)(hp:p.err=0)(hpf:p.full<500000000000)(hl:ts.length<=1000):PC E 170 [.s .tm ts,.s .fm [],.s .pf [p]] (.i 0):=by
 have hk:=TE p (by omega);rw[hp] at hk;refine M.F Tryz.func170 ?_;(repeat' first|refine M.gw ?_|fail);refine AW.range ts.length (fun m=>True) (fun m=>([(1,.s .fm []),(2,.s .pf [p]),(16,.s .tm ts),(17,.i ts.length),(18,.i m)],⟨0,[]⟩))
  (by omega) (fun m=>rfl) (fun m=>rfl) rfl trivial (M.W []) ?_ ?_
 ·intro m hm _;have hc:=vo ts[m] (by have:=z9 (ht _ (List.getElem_mem hm));omega);rw[ht _ (List.getElem_mem hm)] at hc;(repeat' first|refine M.gw ?_|refine M.c2 (hc) ?_|fail);exact⟨rfl,trivial,(M.W [])⟩
 intro _;(repeat' first|refine M.gw ?_|fail);refine AW.range ([]:List Fm).length (fun m=>True) (fun m=>([(2,.s .pf [p]),(28,.s .fm []),(29,.i ([]:List Fm).length),(30,.i m)],⟨0,[]⟩))
  (by simp) (fun m=>rfl) (fun m=>rfl) rfl trivial (M.W []) ?_ ?_
 ·intro m hm _;exact absurd hm (by simp)
 intro _;(repeat' first|refine M.gw ?_|fail);refine AW.range ([p]:List Pf).length (fun m=>True) (fun m=>([(40,.s .pf [p]),(41,.i ([p]:List Pf).length),(42,.i m)],⟨0,[]⟩))
  (by simp) (fun m=>rfl) (fun m=>rfl) rfl trivial (M.W []) ?_ ?_
 ·intro m hm _;obtain rfl:m=0:=by simpa using hm
  (repeat' first|refine M.gw ?_|refine M.c2 (hk) ?_|fail);exact⟨rfl,trivial,(M.W [])⟩
 intro _;(repeat' first|refine M.gw ?_|fail)
 rfl
theorem Ztc(p:Pf)(hp:p.err=0)(hpf:p.full<500000000000):PC E 168 [.agg p.view,.i 0] (.Az [.agg p.view,.i 0]):=by
 have h1:=X8 p (by omega);have h2:=(Pf.Ae p).1 hp;have e:(p.small&&decide (p.size<=16384))=true:=by simp[h2.2.1,h2.2.2]
 rw[e] at h1;have h3:=XG _ p (Nat.le_refl _) (by omega);refine M.F Tryz.func168 ?_;(repeat' first|refine M.gw ?_|refine M.c2 (h1) ?_|refine M.c2 (h3) ?_|fail)
 rfl
theorem Zxa(g s t:Tm)(p:Pf)(hg:C2 g)(hs:C2 s)(eg:g.err=0)(es:s.err=0)(et:t.err=0)(ep:p.err=0)(hp:p.full<100000000000)(ec:(IE g s p).err=0):
 PC E 110 [.agg g.view,.agg s.view,.agg t.view,.agg p.view] (.Az [.agg (IE g s p).view,.i 0]):=by
 have f1:=hg.2.2;have f2:=hs.2.2;have h1:=Zy3 g s p hg hs hp;have h2:=Zpa [g,s,t] p (by simp[eg,es,et]) ep (by omega) (by simp);have h3:=Ztc (IE g s p) ec (by have:=KA _ ((Pf.Ae _).1 ec).1;have:=((Pf.Ae _).1 ec).2.2;omega);generalize IE g s p=P at*;refine M.F Tryz.func110 ?_;(repeat' first|refine M.gw ?_|refine M.c2 (h1) ?_|refine M.c2 (h2) ?_|refine M.c2 (h3) ?_|fail);all_goals first
  |rfl
  |trace_state
def Cl:Tm:=AO (AO Cs zT) (vT 0)
def Cc:Pf:=IE D9 Cl (xo 0)
def I7(t:Tm):Pf:= .mk 16 0 (.mk 0 []) [t] [AP Cl (vT 0)] [xe zT,Cc]
theorem Hh(t:Tm)(h1:t.shape=true)(h2:(t.vars 0).all (fun q=>decide (0<=q.1/\q.1<10000))=true)(h3:t.full<=300000):C2 t:=
 ⟨h1,fun q hq=>by simpa using List.all_eq_true.1 h2 q hq,h3⟩
theorem TS(t:Tm)(ht:t.full<100000000000):PC E 41 [.agg t.view] (.agg (I7 t).view):=by
 have h1:=Ww;have h2:=GP 0;have e0:xn 0=zT:=by decide
 rw[e0] at h2;have h3:=Ex 0;have h4:=Qz Cs [zT,vT 0] (by decide);have h5:=GO Cl (vT 0) (by decide) (by decide);have h6:=v8;have h7:=CJ 5 [vT 0] (by decide);have h8:=FM 2 Af [sT (vT 0)] (by decide) (by decide);have h9:=Jm 0;have h10:=Zxa D9 Cl (vT 0) (xo 0) (Hh _ (by decide+kernel) (by decide+kernel) (by decide+kernel)) (Hh _ (by decide+kernel) (by decide+kernel) (by decide+kernel)) (by decide+kernel) (by decide+kernel) (by decide+kernel) (by decide+kernel) (by decide+kernel) (by decide+kernel);have hz:Cc.full<1000:=by decide+kernel
 have h11:=x8 zT (by decide);have h12:=LH 16 (AP Cl (vT 0)) t (.mk 18 0 (.mk 0 []) [zT] [] []) Cc (by decide+kernel) (by omega) (by decide+kernel) (by omega);have e1:IE D9 Cl (xo 0)=Cc:=rfl;rw[e1] at h10;have e2:List.foldl AO Cs [zT,vT 0]=Cl:=rfl;rw[e2] at h4;unfold I7;generalize Cc=Z at*;generalize xo 0=H at*;generalize Cl=P0 at*;refine M.F Tryz.func41 ?_;(repeat' first|refine M.gw ?_|refine M.c2 (h1) ?_|refine M.c2 (h2) ?_|refine M.c2 (h3) ?_|refine M.c2 (h4) ?_|refine M.c2 (h5) ?_|refine M.c2 (h6) ?_|refine M.c2 (h7) ?_|refine M.c2 (h8) ?_|refine M.c2 (h9) ?_|refine M.c2 (h10) ?_|refine M.c2 (h11) ?_|refine M.c2 (h12) ?_|fail);all_goals first
  |rfl
  |trace_state
def IX(t:Tm):Fm:=Bo 5 Af (AP (t.re (zl 0 1) 0) (vT 0))
theorem WR(d:Dk)(hd:d.ok)(g:List Ty)(hyps:List Fm)(hg:Al g)(hl:g.length<=16):
 AC E 70 [.ptr 0 0,.agg [.s .ty g,.s .fm hyps]] ⟨1,[(0,.var d.cells)]⟩ (.agg [.i 10,.i 0,.i 0,.s .ty [],.s .tm [(Dk.tm 3 d g Af).1],.arr 1 1 5,.s .pf [xe (Dk.tm 3 d g Af).1]])
  ⟨2,[(0,.var (Dk.tm 3 d g Af).2.cells),(1,.var (IX (Dk.tm 3 d g Af).1).view)]⟩/\
 AC E 70 [.ptr 0 0,.agg [.s .ty g,.s .fm hyps]] ⟨1,[(0,.var d.cells)]⟩ (.agg (HJ (IX (Dk.tm 3 d g Af).1) (Dk.tm 3 d g Af).1 (xe (Dk.tm 3 d g Af).1)).view)
  ⟨1,[(0,.var (Dk.tm 3 d g Af).2.cells)]⟩:=by
 have h1:=v8;have h2:=Ij 3 (by omega) d g Af 1 (by omega) hd hg zg (by omega) (by omega) (by omega);have hm:=(HS d hg).1;have hf:=z9 hm.err;generalize Dk.tm 3 d g Af=T at*;obtain⟨t,d2⟩:=T;simp only at hm hf;have h3:=Sc (g:=g) hm.err hm.inf (by omega);have h4:=Ex 0;have l1:=Jw 0 1 t 0 hm.shape;have h7:=x8 t (by omega);unfold IX HJ xe;generalize t.re (zl 0 1) 0=u at*;have h5:=GO u (vT 0) (by omega) (by rw[Kz];omega);have h6:=Gc 5 Af (AP u (vT 0)) (by decide) (by rw[Nx,Kz];omega);have fq:(Bo 5 Af (AP u (vT 0))).full<1000000:=by have e:Af.size=1:=rfl;simp only[Bo,Fm.full,Fm.Au,List.map_nil,List.sum_nil];rw[Nx,Kz,e];omega
 have fr:(Pf.mk 18 0 (.mk 0 []) [t] [] []).full<1000000:=by rw[wr,GA];simp;omega
 have h8:=Yaa 10 (Bo 5 Af (AP u (vT 0))) t (.mk 18 0 (.mk 0 []) [t] [] []) (by omega) (by omega) (by omega);have h9:=JK 10 (Bo 5 Af (AP u (vT 0))) t (.mk 18 0 (.mk 0 []) [t] [] []) (by omega) (by omega) (by omega);constructor
 ·refine M.F Tryz.func70 ?_;(repeat' first|refine M.gw ?_|refine M.c2 (h1) ?_|refine M.cb (h2) [0] 0 ?_|refine M.c2 (h3) ?_|refine M.c2 (h4) ?_|refine M.c2 (h5) ?_|refine M.c2 (h6) ?_|refine M.c2 (h7) ?_|refine M.cb (h8) [] 1 ?_|fail);refine K.rt [some 0,some 5] rfl rfl rfl rfl rfl ?_ rfl ?_
  ·exact ⟨⟨_,rfl,_,rfl,_,rfl,Bh.refl _⟩,⟨_,rfl,_,rfl,_,rfl,Bh.refl _⟩,trivial⟩
  ·first
    |exact An.refl _
    |(refine An.of_eq ?_;simp[zj,Ty.view,Tm.view];rfl)
 ·refine M.F Tryz.func70 ?_;(repeat' first|refine M.gw ?_|refine M.c2 (h1) ?_|refine M.cb (h2) [0] 0 ?_|refine M.c2 (h3) ?_|refine M.c2 (h4) ?_|refine M.c2 (h5) ?_|refine M.c2 (h6) ?_|refine M.c2 (h7) ?_|refine M.c2 (h9) ?_|fail)
  (exact M.n2 [some 0] (h8:=(by simp[zj,V.wk,V.Ap,za,Ty.view,Tm.view,Pf.view])))
def Dk.P5(d:Dk):Nat:=(d.next 3).1.toNat
def Dk.lm(d:Dk):List Fm×Dk:=Dk.De d.P5 (d.next 3).2 []
theorem Dk.JH(d:Dk):d.lm.1.length<=2:=by
 have:=Dk.Bx d 3 (by omega);unfold Dk.lm Dk.P5;rw[Dk.C6];omega
theorem Dk.Ej{d:Dk}(h:d.ok):d.lm.2.ok:=Dk.DQ _ _ _ (Dk.AE h 3)
theorem O6(d:Dk)(hd:d.ok):AC E 10 [.ptr 0 0] ⟨1,[(0,.var d.cells)]⟩ (.s .fm d.lm.1) ⟨1,[(0,.var d.lm.2.cells)]⟩:=by
 have h1:=uv d 3 hd (by omega);have hb:=Dk.Bx d 3 (by omega);obtain⟨c,hc⟩:∃c:Nat,(d.next 3).1=c:=⟨(d.next 3).1.toNat,by omega⟩;have hx:d.lm=Dk.De c (d.next 3).2 []:=by unfold Dk.lm Dk.P5;rw[hc];rfl
 rw[hc] at h1 hb;rw[hx];have hdo:=Dk.AE hd 3;generalize (d.next 3).2=d2 at*;refine M.F Tryz.func10 ?_;(repeat' first|refine M.gw ?_|refine M.cb (h1) [0] 0 ?_|fail);refine AW.down c (fun m=>m<=c)
  (fun m=>([(0,.ptr 0 0),(3,.slice (.own 1) (.t .fm (Dk.De (c-m) d2 []).1)),(4,.i m)],⟨2,[(0,.var (Dk.De (c-m) d2 []).2.cells),(1,.row)]⟩))
  (by omega) (fun m=>rfl) rfl (Nat.le_refl _) ?_ ?_ ?_
 ·simp only[Nat.sub_self];exact(M.W [some 0,none])
 ·intro m hm hP;have e:=Dk.DR (c-(m+1)) d2 [];rw[show c-(m+1)+1=c-m by omega] at e;have h3:=R2 2 (Dk.De (c-(m+1)) d2 []).2 [] 2 (by omega) rfl (Dk.DQ _ _ _ hdo) zm (by simp);have hl:=Dk.C6 (c-(m+1)) d2 [];(repeat' first|refine M.gw ?_|refine M.cb (h3) [0] 0 ?_|fail);refine⟨rfl,by omega,?_⟩;simp only[e];exact(M.W [some 0,some 2])
 ·intro _;simp only[Nat.sub_zero];(repeat' first|refine M.gw ?_|fail)
  (exact M.n2 [some 0] (h8:=(by simp[zj,V.wk,V.Ap,za,Ty.view,Tm.view,V.BP])))
def C1(n:Nat):Nat:=4000000*3^n
theorem Vg:∀n:Nat,1<=3^n
 |0=>by decide
 |n+1=>by rw[Nat.pow_succ];have:=Vg n;omega
theorem wd(n:Nat):4000000<=C1 n:=by unfold C1;have:=Vg n;omega
theorem xu(n:Nat):C1 (n+1)=3*C1 n:=by unfold C1;rw[Nat.pow_succ];omega
theorem uc{n:Nat}(h:n<=4):C1 n<=400000000:=by unfold C1;have:3^n<=3^4:=Nat.pow_le_pow_right (by omega) h;omega
theorem Je(f:Fm)(fr by_:Int):(f.AV fr by_).full<=f.full:=Fm.Dp (fun b t=>Tm.Dp (fun i c=>by simp[zl,Tm.full,Tm.Au,Ty.size,Ty.sizes]) t 0) f 0
theorem IB(d:Dk)(g:List Ty)(s:Ty)(hd:d.ok)(hg:Al g)(hs:s.small)(hl:g.length<=16):∃(t:Tm) (d':Dk),d'.ok/\t.err=0/\t.inf g=(s,0)/\
 AC E 29 [.ptr 0 0,.s .ty g,.agg s.view,.i 1] ⟨1,[(0,.var d.cells)]⟩ (.agg t.view) ⟨1,[(0,.var d'.cells)]⟩:=by
 have hm:=Dk.CF 3 d g s hg hs (by omega) (by omega);exact⟨_,_,Dk.CA 3 d g s hd,hm.err hg hs (by omega),hm.inf hg hs,Ij 3 (by omega) d g s 1 (by omega) hd hg hs (by omega) (by omega) (by omega)⟩
theorem R9(d:Dk)(g:List Ty)(hd:d.ok)(hg:Al g)(hl:g.length<=16):∃(t:Tm) (d':Dk),d'.ok/\t.err=0/\t.size<=60/\t.inf g=(Af,0)/\
 AC E 29 [.ptr 0 0,.s .ty g,.agg Af.view,.i 1] ⟨1,[(0,.var d.cells)]⟩ (.agg t.view) ⟨1,[(0,.var d'.cells)]⟩:=
 ⟨_,_,Dk.CA 3 d g Af hd,(HS d hg).1.err,(HS d hg).2,(HS d hg).1.inf,Ij 3 (by omega) d g Af 1 (by omega) hd hg zg (by omega) (by omega) (by omega)⟩
theorem N5(f:Fm)(h1:f.shape=true)(h2:(f.A2 0).all (fun q=>(q.1.vars 0).all fun r=>decide (0<=r.1/\r.1<10000))=true)(h3:f.full<=300000):DY f:=
 ⟨h1,fun q hq r hr=>by simpa using List.all_eq_true.1 (List.all_eq_true.1 h2 q hq) r hr,h3⟩
theorem Kh(d:Dk)(hd:d.ok):∃(s:Ty) (d':Dk),d'.ok/\s.small/\AC E 30 [.ptr 0 0,.i 1] ⟨1,[(0,.var d.cells)]⟩ (.agg s.view) ⟨1,[(0,.var d'.cells)]⟩:=
 ⟨_,_,Dk.Bw 1 d hd,d.type1,Kr 1 1 d (by omega) (by omega) (by omega) hd⟩
theorem QC(d:Dk)(hd:d.ok):∃(s:Ty) (d':Dk),d'.ok/\s.small/\AC E 30 [.ptr 0 0,.i 0] ⟨1,[(0,.var d.cells)]⟩ (.agg s.view) ⟨1,[(0,.var d'.cells)]⟩:=
 ⟨_,_,Dk.Bw 0 d hd,⟨d.type0.1,by rw[d.type0.2];omega⟩,Kr 0 0 d (by omega) (by omega) (by omega) hd⟩
theorem FT(d:Dk)(n:Int)(hd:d.ok)(hn:0<n/\n<1099511627776):∃(i:Int) (d':Dk),d'.ok/\(0<=i/\i<n)/\AC E 33 [.ptr 0 0,.i n] ⟨1,[(0,.var d.cells)]⟩ (.i i) ⟨1,[(0,.var d'.cells)]⟩:=
 ⟨_,_,Dk.AE hd n,Dk.Bx d n hn.1,uv d n hd hn.2⟩
theorem Pm(d:Dk)(g:List Ty)(hd:d.ok)(hg:Al g)(hl:g.length<=16):∃(f:Fm) (d':Dk),d'.ok/\f.err=0/\f.Bl g/\
 AC E 34 [.ptr 0 0,.s .ty g,.i 1] ⟨1,[(0,.var d.cells)]⟩ (.agg f.view) ⟨1,[(0,.var d'.cells)]⟩:=by
 have gf:=Dk.Eu 1 d g hg;have h:(Dk.fm 1 d g).1.err=0:=(Fm.Ae _).2 ⟨gf.1,by have:=gf.2.1;omega⟩;exact⟨_,_,Dk.ER 1 d g hd,h,Dk.GM 1 d g hg,R2 1 d g 1 (by omega) rfl hd hg (by omega)⟩
theorem KS{lems:List Fm}{tys:List Ty}{hyps:List Fm}(hc:(Ck.mk lems tys hyps).ok)(hs:Al tys){n:Nat}{p:Pf}(hp:Made n p)(hn:n<=1000000000):∃(x:Fm) (us:List Int) (e:Int),(e=0->x.err=0/\x.Bl tys)/\
 PC E 58 [.s .fm lems,.agg [.s .ty tys,.s .fm hyps],.agg p.view] (DG x us e):=by
 have hf:=hp.full;have h0:=hc.sum;have h:=T0 lems hyps tys p (fun f hf=>by have:=yf (hc.lems f hf).1;omega) (fun f hf=>by have:=yf (hc.hyps f hf).1;omega) (by simp only at h0;omega) (by have:=hc.nl;simp only at this;omega) (by have:=hc.nh;simp only at this;omega) (by omega);refine⟨_,_,_,fun he=> ?_,h⟩;unfold Hy at he ⊢;rw[if_neg (by rw[show G5 lems tys hyps=0 from Ta hc];simp)] at he ⊢;by_cases h1:p.err≠0
 ·rw[if_pos h1] at he;exact absurd he h1
 ·rw[if_neg h1] at he ⊢;have h2:=((MT p hp.shape) _ hc).1 he;exact⟨h2.1,h2.2.1⟩
theorem DY.size{g:List Ty}{f:Fm}(hs:f.shape=true)(hz:f.size<=4500)(ho:f.Bl g)(hg:g.length<=20):DY f:=by
 have h1:=ID f hs;refine⟨hs,fun q hq r hr=> ?_,by omega⟩;have:=PT f g 0 hs ho q hq r hr;omega
theorem SV{f:Fm}(hf:f.err=0):(f.AV 0 1).shape=true/\(f.AV 0 1).size<=4096:=(Fm.Ae _).1 (K5 hf (by omega))
theorem Si{f:Fm}{g:List Ty}(hf:f.err=0)(ho:f.Bl g)(s:Ty):(f.AV 0 1).Bl (g++[s]):=by
 have h:=Jo (g:=g) (h:=[]) [s] ((Fm.Ae f).1 hf).1 (by simpa using ho);simpa using h
theorem JS{f:Fm}{g:List Ty}{k:Int}{s:Ty}(hk:k=5\/k=7)(hs:s.small)(h1:f.shape=true)(h2:f.size<=4400)(ho:f.Bl (g++[s]))(hg:g.length<=16):DY (Bo k s f):=by
 have he:=w7 hs;have hq:=Gf.qu (g:=g) k (by omega) he ⟨h1,h2,ho⟩;exact DY.size hq.sh (by have:=hq.sz;omega) hq.ok (by omega)
theorem M9{f:Fm}{g:List Ty}(hf:f.err=0)(ho:f.Bl g)(s:Ty)(hg:g.length<=16):DY (f.AV 0 1):=
 DY.of (g:=g++[s]) (K5 hf (by omega)) (Si hf ho s) (by simp;omega)
theorem Tc{t:Tm}{g:List Ty}(he:t.err=0)(hi:t.inf g=(Af,0)):(t.re (zl 0 1) 0).inf (g++[Af])=(Af,0)/\(t.re (zl 0 1) 0).shape=true/\(t.re (zl 0 1) 0).size=t.size:=by
 have hs:=(Tm.Ae t).1 he;have h1:=Si (f:=AP t t) (g:=g);have h2:=Jo (f:=AP t t) (g:=g) (h:=[]) [Af] (Jt hs.1 hs.1) (by simpa using CL.2 ⟨hi,hi⟩);have e:(AP t t).AV ([]:List Ty).length [Af].length=AP (t.re (zl 0 1) 0) (t.re (zl 0 1) 0):=rfl;rw[e] at h2;have h3:=(CL.1 h2).1;refine⟨by simpa using h3,?_,?_⟩
 ·exact J3 0 hs.1 (by omega)
 ·exact L8 0 1 t 0 hs.1
theorem SS{t:Tm}{g:List Ty}(he:t.err=0)(hi:t.inf g=(Af,0))(hz:t.size<=2000):(AP (t.re (zl 0 1) 0) (vT 0)).err=0/\(AP (t.re (zl 0 1) 0) (vT 0)).Bl (g++[Af]):=by
 obtain⟨h1,h2,h3⟩:=Tc he hi;exact⟨(Fm.Ae _).2 ⟨Jt h2 (K8 0 (by omega)),by rw[I6,h3];have h9:=(show(vT 0).size=1 by decide);omega⟩,CL.2 ⟨h1,Vf g Af⟩⟩
def EP(n:Nat):Prop:=∀(lems:List Fm) (tys:List Ty) (hyps:List Fm) (d:Dk) (k:Int),k=n->d.ok->(Ck.mk lems tys hyps).ok->Al tys->
 ∃(p:Pf) (d':Dk),Made (C1 n) p/\d'.ok/\AC E 19 [.ptr 0 0,.s .fm lems,.agg [.s .ty tys,.s .fm hyps],.i k] ⟨1,[(0,.var d.cells)]⟩ (.agg p.view) ⟨1,[(0,.var d'.cells)]⟩
theorem u5{lems:List Fm}{tys:List Ty}{hyps:List Fm}(hc:(Ck.mk lems tys hyps).ok):tys.length<=16/\hyps.length<=16/\lems.length<=32:=⟨hc.len,hc.nh,hc.nl⟩
theorem Jv(n:Nat)(lems:List Fm)(tys:List Ty)(hyps:List Fm)(hc:(Ck.mk lems tys hyps).ok)(hs:Al tys)(d:Dk)(hd:d.ok)(k:Int):
 ∃(p:Pf) (d':Dk),Made (C1 n) p/\d'.ok/\AW E Tryz.f19.ntmps 1 (Gy [1,1,1] (Mv Tryz.f19)) [(0,.ptr 0 0),(1,.s .fm lems),(3,.i k),(6,.ptr 1 0),(8,.ptr 2 0),(9,.ptr 3 0)] ⟨4,[(0,.var d.cells),(1,.var [.s .ty tys,.s .fm hyps]),(2,.var [.i 0,.i 0,.i 0,.slice .nil (.t .ty []),.slice .nil (.t .tm []),.slice .nil (.t .fm []),.slice .nil (.t .pf [])]),(3,.var Af.view)]⟩ (Fh E 1 Tryz.f19.results.toList (.agg p.view) ⟨1,[(0,.var d'.cells)]⟩):=by
 have hb:=wd n;have hl:=u5 hc;obtain⟨j,d1,ok1,hj,h1⟩:=FT d 4 hd (by omega);obtain⟨t,d2,ok2,et,it,h2⟩:=IB d1 tys Af ok1 hs zg hl.1;have ti:=C2.of et it (by omega);have h3:=x8 t (by have:=ti.2.2;omega);by_cases a1:j=0/\0<hyps.length
 ·obtain ⟨rfl,a2⟩:=a1;obtain⟨i,d3,ok3,hi,h4⟩:=FT d1 hyps.length ok1 (by omega);have h5:=Jm i;refine⟨xo i,d3,(Made.hyp (by omega)).up (by omega),ok3,?_⟩;show AW _ _ _ (Code.seq _ _) _ _ _;(repeat' first|refine M.gw ?_|refine M.cb (h1) [0] 0 ?_|refine M.cb (h4) [0] 0 ?_|refine M.c2 (h5) ?_|refine M.bl ?_|refine M.cs ?_ ?_<;>intro h|fail);all_goals first|exfalso;simp_all;done|exact M.n2 [some 0] (h8:=(by simp[zj,V.wk,V.Ap,za,Ty.view,Tm.view,Pf.view]))
 by_cases a3:j=1/\0<lems.length
 ·obtain ⟨rfl,a2⟩:=a3;obtain⟨i,d3,ok3,hi,h4⟩:=FT d1 lems.length ok1 (by omega);refine⟨.mk 2 i (.mk 0 []) [] [] [],d3,(Made.lem (by omega)).up (by omega),ok3,?_⟩;show AW _ _ _ (Code.seq _ _) _ _ _;(repeat' first|refine M.gw ?_|refine M.cb (h1) [0] 0 ?_|refine M.cb (h4) [0] 0 ?_|refine M.bl ?_|refine M.cs ?_ ?_<;>intro h|fail);all_goals first|exfalso;simp_all;done|exact M.n2 [some 0] (h8:=(by simp[zj,V.wk,V.Ap,za,Ty.view,Tm.view,Pf.view]))
 refine⟨.mk 18 0 (.mk 0 []) [t] [] [],d2,(Made.ref ti).up (by omega),ok2,?_⟩;have q3:Af.size=1:=rfl;show AW _ _ _ (Code.seq _ _) _ _ _;rcases(show j=0\/j=1\/(j≠0/\j≠1) by omega) with rfl|rfl|hj2
 ·have a4:hyps.length=0:=by omega
  obtain rfl:=List.eq_nil_of_length_eq_zero a4;(repeat' first|refine M.gw ?_|refine M.cb (h1) [0] 0 ?_|refine M.cb (h2) [0] 0 ?_|refine M.c2 (h3) ?_|refine M.bl ?_|fail);all_goals first|exfalso;simp at h;done|exact M.n2 [some 0] (h8:=(by simp[zj,V.wk,V.Ap,za,Ty.view,Tm.view,Pf.view]))
 ·have a4:lems.length=0:=by omega
  obtain rfl:=List.eq_nil_of_length_eq_zero a4;(repeat' first|refine M.gw ?_|refine M.cb (h1) [0] 0 ?_|refine M.cb (h2) [0] 0 ?_|refine M.c2 (h3) ?_|refine M.bl ?_|fail);all_goals first|exfalso;simp at h;done|exact M.n2 [some 0] (h8:=(by simp[zj,V.wk,V.Ap,za,Ty.view,Tm.view,Pf.view]))
 ·repeat' (first|refine M.gw ?_|refine M.cb (h1) [0] 0 ?_|refine M.cb (h2) [0] 0 ?_|refine M.c2 (h3) ?_|refine M.bl ?_|refine M.cs ?_ ?_<;>intro h|fail)
  all_goals first|exfalso;simp at h;omega|exfalso;simp_all;done|exact M.n2 [some 0] (h8:=(by simp[zj,V.wk,V.Ap,za,Ty.view,Tm.view,Pf.view]))
abbrev Fy(n:Nat)(lems:List Fm)(tys:List Ty)(hyps:List Fm)(d:Dk)(k:Int):Prop:=
 ∃(p:Pf) (d':Dk),Made (C1 (n+1)) p/\d'.ok/\AW E Tryz.f19.ntmps 1 (Gy [1,1] (Mv Tryz.f19)) [(0,.ptr 0 0),(1,.s .fm lems),(3,.i k),(6,.ptr 1 0),(8,.ptr 2 0),(9,.ptr 3 0)] ⟨4,[(0,.var d.cells),(1,.var [.s .ty tys,.s .fm hyps]),(2,.var [.i 0,.i 0,.i 0,.slice .nil (.t .ty []),.slice .nil (.t .tm []),.slice .nil (.t .fm []),.slice .nil (.t .pf [])]),(3,.var Af.view)]⟩ (Fh E 1 Tryz.f19.results.toList (.agg p.view) ⟨1,[(0,.var d'.cells)]⟩)
theorem Ye6(n:Nat)(hn:n<=3)(H:EP n)(lems:List Fm)(tys:List Ty)(hyps:List Fm)(hc:(Ck.mk lems tys hyps).ok)(hs:Al tys)(ht:tys.length<10)(hh:hyps.length<10)(d d1:Dk)(ok1:d1.ok)(k:Int)(hk:k=(n:Int)+1)
 (hx:AC E 33 [.ptr 0 0,.i 17] ⟨1,[(0,.var d.cells)]⟩ (.i 0) ⟨1,[(0,.var d1.cells)]⟩):
 Fy n lems tys hyps d k:=by
 have hb:=wd n;have hbs:=xu n;have hbl:=uc (show n<=4 by omega);have hl:=u5 hc;obtain⟨p1,d2,m1,ok2,hp1⟩:=H lems tys hyps d1 (k-1) (by omega) ok1 hc hs;have fp1:=m1.full;obtain⟨p2,d3,m2,ok3,hp2⟩:=H lems tys hyps d2 (k-1) (by omega) ok2 hc hs;have fp2:=m2.full;have hP:=w8 3 [p1,p2] (by simp) (Hx (by omega) (by omega));refine⟨_,d3,(Made.two (k:=3) (by omega) m1 m2).up (by omega),ok3,?_⟩;show AW _ _ _ (Code.seq _ _) _ _ _;(repeat' first|refine M.go ?_|refine M.gs ?_ ?_<;>intro h|refine M.z1 3 ?_|refine M.cs ?_ ?_<;>intro h|refine M.gk ?_|fail);all_goals first
  |(exfalso;simp at h;omega)
  |skip
 (repeat' first|refine M.gw ?_|refine M.cb (hx) [0] 0 ?_|refine M.cb (hp1) [0] 0 ?_|refine M.cb (hp2) [0] 0 ?_|refine M.c2 (hP) ?_|refine M.bl ?_|fail);all_goals first|exact M.n2 [some 0] (h8:=(by simp[zj,V.wk,V.Ap,za,Ty.view,Tm.view,Pf.view]))
theorem Yel(n:Nat)(hn:n<=3)(H:EP n)(lems:List Fm)(tys:List Ty)(hyps:List Fm)(hc:(Ck.mk lems tys hyps).ok)(hs:Al tys)(ht:tys.length<10)(hh:hyps.length<10)(d d1:Dk)(ok1:d1.ok)(k:Int)(hk:k=(n:Int)+1)
 (hx:AC E 33 [.ptr 0 0,.i 17] ⟨1,[(0,.var d.cells)]⟩ (.i 1) ⟨1,[(0,.var d1.cells)]⟩):
 Fy n lems tys hyps d k:=by
 have hb:=wd n;have hbs:=xu n;have hbl:=uc (show n<=4 by omega);have hl:=u5 hc;obtain⟨i,d4,ok4,hi,h4⟩:=FT d1 2 ok1 (by omega);obtain⟨p1,d2,m1,ok2,hp1⟩:=H lems tys hyps d4 (k-1) (by omega) ok4 hc hs;have fp1:=m1.full;obtain⟨p2,d3,m2,ok3,hp2⟩:=H lems tys hyps d2 (k-1) (by omega) ok2 hc hs;have fp2:=m2.full;have hP:=w8 3 [p1,p2] (by simp) (Hx (by omega) (by omega));have hm:=Made.two (k:=3) (by omega) m1 m2;have fm:=hm.full;have hP2:=w8 (4+i) [.mk 3 0 (.mk 0 []) [] [] [p1,p2]] (by simp) (w9 (by omega));refine⟨_,d3,(Made.one (k:=4+i) (by omega) hm).up (by omega),ok3,?_⟩;show AW _ _ _ (Code.seq _ _) _ _ _;(repeat' first|refine M.go ?_|refine M.gs ?_ ?_<;>intro h|refine M.z1 3 ?_|refine M.cs ?_ ?_<;>intro h|refine M.gk ?_|fail);all_goals first
  |(exfalso;simp at h;omega)
  |skip
 (repeat' first|refine M.gw ?_|refine M.cb (hx) [0] 0 ?_|refine M.cb (h4) [0] 0 ?_|refine M.cb (hp1) [0] 0 ?_|refine M.cb (hp2) [0] 0 ?_|refine M.c2 (hP) ?_|refine M.c2 (hP2) ?_|refine M.bl ?_|fail);all_goals first|exact M.n2 [some 0] (h8:=(by simp[zj,V.wk,V.Ap,za,Ty.view,Tm.view,Pf.view]))
theorem Yff(n:Nat)(hn:n<=3)(H:EP n)(lems:List Fm)(tys:List Ty)(hyps:List Fm)(hc:(Ck.mk lems tys hyps).ok)(hs:Al tys)(ht:tys.length<10)(hh:hyps.length<10)(d d1:Dk)(ok1:d1.ok)(k:Int)(hk:k=(n:Int)+1)
 (hx:AC E 33 [.ptr 0 0,.i 17] ⟨1,[(0,.var d.cells)]⟩ (.i 2) ⟨1,[(0,.var d1.cells)]⟩):
 Fy n lems tys hyps d k:=by
 have hb:=wd n;have hbs:=xu n;have hbl:=uc (show n<=4 by omega);have hl:=u5 hc;obtain⟨f,d4,ok4,ef,of_,h4⟩:=Pm d1 tys ok1 hs hl.1;have ff:=yf ef;have hw:=QN tys hyps f (by omega);obtain⟨p1,d2,m1,ok2,hp1⟩:=H lems tys (hyps++[f]) d4 (k-1) (by omega) ok4 (hc.AA (by simp only;omega) ef of_) hs;have fp1:=m1.full;have hI:=Mn f p1 (by omega) (by omega);refine⟨_,d2,(Made.imp (DY.of ef of_ (by omega)) m1).up (by omega),ok2,?_⟩;show AW _ _ _ (Code.seq _ _) _ _ _;(repeat' first|refine M.go ?_|refine M.gs ?_ ?_<;>intro h|refine M.z1 3 ?_|refine M.cs ?_ ?_<;>intro h|refine M.gk ?_|fail);all_goals first
  |(exfalso;simp at h;omega)
  |skip
 (repeat' first|refine M.gw ?_|refine M.cb (hx) [0] 0 ?_|refine M.cb (h4) [0] 0 ?_|refine M.c2 (hw) ?_|refine M.cb (hp1) [0] 0 ?_|refine M.c2 (hI) ?_|refine M.bl ?_|fail);all_goals first|exact M.n2 [some 0] (h8:=(by simp[zj,V.wk,V.Ap,za,Ty.view,Tm.view,Pf.view]))
theorem Yga(n:Nat)(hn:n<=3)(H:EP n)(lems:List Fm)(tys:List Ty)(hyps:List Fm)(hc:(Ck.mk lems tys hyps).ok)(hs:Al tys)(ht:tys.length<10)(hh:hyps.length<10)(d d1:Dk)(ok1:d1.ok)(k:Int)(hk:k=(n:Int)+1)
 (hx:AC E 33 [.ptr 0 0,.i 17] ⟨1,[(0,.var d.cells)]⟩ (.i 3) ⟨1,[(0,.var d1.cells)]⟩):
 Fy n lems tys hyps d k:=by
 have hb:=wd n;have hbs:=xu n;have hbl:=uc (show n<=4 by omega);have hl:=u5 hc;obtain⟨p1,d2,m1,ok2,hp1⟩:=H lems tys hyps d1 (k-1) (by omega) ok1 hc hs;have fp1:=m1.full;obtain⟨x,us,e,hxe,hI⟩:=KS hc hs m1 (by omega);by_cases he:e=0;case neg=>
  obtain⟨p,d',hm,ok',hA⟩:=Jv (n+1) lems tys hyps hc hs d2 ok2 k;refine⟨p,d',hm,ok',?_⟩;show AW _ _ _ (Code.seq _ _) _ _ _;(repeat' first|refine M.go ?_|refine M.gs ?_ ?_<;>intro h|refine M.z1 3 ?_|refine M.cs ?_ ?_<;>intro h|refine M.gk ?_|fail);all_goals first
   |(exfalso;simp at h;omega)
   |skip
  (repeat' first|refine M.go ?_|refine M.cb (hx) [0] 0 ?_|refine M.cb (hp1) [0] 0 ?_|refine M.c2 (hI) ?_|refine M.z1 61 ?_|refine M.bl ?_|refine M.cs ?_ ?_<;>intro h|refine M.gk ?_|fail);all_goals first
   |exact AW.weak (M.W [some 0,some 1,some 2,some 3]) hA
   |(exfalso;simp at h;omega)
   |trace_state
 subst he;obtain⟨ex,ox⟩:=hxe rfl;have fx:=yf ex;have hw:=QN tys hyps x (by omega);obtain⟨p2,d3,m2,ok3,hp2⟩:=H lems tys (hyps++[x]) d2 (k-1) (by omega) ok2 (hc.AA (by simp only;omega) ex ox) hs;have fp2:=m2.full;have hIm:=Mn x p2 (by omega) (by omega);have hm:=Made.imp (DY.of ex ox (by omega)) m2;have fm:=hm.full;have hP:=w8 7 [.mk 6 0 (.mk 0 []) [] [x] [p2],p1] (by simp) (Hx (by omega) (by omega));refine⟨_,d3,(Made.two (k:=7) (by omega) hm m1).up (by omega),ok3,?_⟩;show AW _ _ _ (Code.seq _ _) _ _ _;(repeat' first|refine M.go ?_|refine M.gs ?_ ?_<;>intro h|refine M.z1 3 ?_|refine M.cs ?_ ?_<;>intro h|refine M.gk ?_|fail);all_goals first
  |(exfalso;simp at h;omega)
  |skip
 (repeat' first|refine M.gw ?_|refine M.cb (hx) [0] 0 ?_|refine M.cb (hp1) [0] 0 ?_|refine M.c2 (hI) ?_|refine M.c2 (hw) ?_|refine M.cb (hp2) [0] 0 ?_|refine M.c2 (hIm) ?_|refine M.c2 (hP) ?_|refine M.bl ?_|fail);all_goals first|exact M.n2 [some 0] (h8:=(by simp[zj,V.wk,V.Ap,za,Ty.view,Tm.view,Pf.view]))
theorem Yfv(n:Nat)(hn:n<=3)(H:EP n)(lems:List Fm)(tys:List Ty)(hyps:List Fm)(hc:(Ck.mk lems tys hyps).ok)(hs:Al tys)(ht:tys.length<10)(hh:hyps.length<10)(d d1:Dk)(ok1:d1.ok)(k:Int)(hk:k=(n:Int)+1)
 (hx:AC E 33 [.ptr 0 0,.i 17] ⟨1,[(0,.var d.cells)]⟩ (.i 4) ⟨1,[(0,.var d1.cells)]⟩):
 Fy n lems tys hyps d k:=by
 have hb:=wd n;have hbs:=xu n;have hbl:=uc (show n<=4 by omega);have hl:=u5 hc;obtain⟨s,d4,ok4,ss,h4⟩:=Kh d1 ok1;have es:=w7 ss;have hbe:=J4 tys hyps [s] (fun f hf=>hc.hyps f hf) (by omega) (by simp) (by omega);have hc2:(Ck.mk lems (tys++[s]) (hyps.map fun f=>f.AV 0 [s].length)).ok:=hc.below (l:=[s]) (by simp only[List.length_singleton];omega) (w9 es);have hs2:Al (tys++[s]):=zp hs (zi ss zm);obtain⟨p1,d2,m1,ok2,hp1⟩:=H lems (tys++[s]) (hyps.map fun f=>f.AV 0 [s].length) d4 (k-1) (by omega) ok4 hc2 hs2;have fp1:=m1.full;have hA:=LF 8 s p1 (by have:=JI es;omega) (by omega);refine⟨_,d2,(Made.all (k:=8) (by omega) es m1).up (by omega),ok2,?_⟩;show AW _ _ _ (Code.seq _ _) _ _ _;(repeat' first|refine M.go ?_|refine M.gs ?_ ?_<;>intro h|refine M.z1 3 ?_|refine M.cs ?_ ?_<;>intro h|refine M.gk ?_|fail);all_goals first
  |(exfalso;simp at h;omega)
  |skip
 (repeat' first|refine M.gw ?_|refine M.cb (hx) [0] 0 ?_|refine M.cb (h4) [0] 0 ?_|refine M.c2 (hbe) ?_|refine M.cb (hp1) [0] 0 ?_|refine M.c2 (hA) ?_|refine M.bl ?_|fail);all_goals first|exact M.n2 [some 0] (h8:=(by simp[zj,V.wk,V.Ap,za,Ty.view,Tm.view,Pf.view]))
theorem Yb7(n:Nat)(hn:n<=3)(H:EP n)(lems:List Fm)(tys:List Ty)(hyps:List Fm)(hc:(Ck.mk lems tys hyps).ok)(hs:Al tys)(ht:tys.length<10)(hh:hyps.length<10)(d d1:Dk)(ok1:d1.ok)(k:Int)(hk:k=(n:Int)+1)
 (hx:AC E 33 [.ptr 0 0,.i 17] ⟨1,[(0,.var d.cells)]⟩ (.i 14) ⟨1,[(0,.var d1.cells)]⟩):
 Fy n lems tys hyps d k:=by
 have hb:=wd n;have hbs:=xu n;have hbl:=uc (show n<=4 by omega);have hl:=u5 hc;obtain⟨s,d4,ok4,ss,h4⟩:=Kh d1 ok1;have es:=w7 ss;have hbe:=J4 tys hyps [s] (fun f hf=>hc.hyps f hf) (by omega) (by simp) (by omega);have hc2:(Ck.mk lems (tys++[s]) (hyps.map fun f=>f.AV 0 [s].length)).ok:=hc.below (l:=[s]) (by simp only[List.length_singleton];omega) (w9 es);have hs2:Al (tys++[s]):=zp hs (zi ss zm);obtain⟨p1,d2,m1,ok2,hp1⟩:=H lems (tys++[s]) (hyps.map fun f=>f.AV 0 [s].length) d4 (k-1) (by omega) ok4 hc2 hs2;have fp1:=m1.full;have hA:=LF 12 s p1 (by have:=JI es;omega) (by omega);refine⟨_,d2,(Made.all (k:=12) (by omega) es m1).up (by omega),ok2,?_⟩;show AW _ _ _ (Code.seq _ _) _ _ _;(repeat' first|refine M.go ?_|refine M.gs ?_ ?_<;>intro h|refine M.z1 3 ?_|refine M.cs ?_ ?_<;>intro h|refine M.gk ?_|fail);all_goals first
  |(exfalso;simp at h;omega)
  |skip
 (repeat' first|refine M.gw ?_|refine M.cb (hx) [0] 0 ?_|refine M.cb (h4) [0] 0 ?_|refine M.c2 (hbe) ?_|refine M.cb (hp1) [0] 0 ?_|refine M.c2 (hA) ?_|refine M.bl ?_|fail);all_goals first|exact M.n2 [some 0] (h8:=(by simp[zj,V.wk,V.Ap,za,Ty.view,Tm.view,Pf.view]))
theorem Yfl(n:Nat)(hn:n<=3)(H:EP n)(lems:List Fm)(tys:List Ty)(hyps:List Fm)(hc:(Ck.mk lems tys hyps).ok)(hs:Al tys)(ht:tys.length<10)(hh:hyps.length<10)(d d1:Dk)(ok1:d1.ok)(k:Int)(hk:k=(n:Int)+1)
 (hx:AC E 33 [.ptr 0 0,.i 17] ⟨1,[(0,.var d.cells)]⟩ (.i 5) ⟨1,[(0,.var d1.cells)]⟩):
 Fy n lems tys hyps d k:=by
 have hb:=wd n;have hbs:=xu n;have hbl:=uc (show n<=4 by omega);have hl:=u5 hc;obtain⟨s,d4,ok4,ss,h4⟩:=Kh d1 ok1;obtain⟨t,d5,ok5,et,it,h5⟩:=IB d4 tys s ok4 hs ss hl.1;have ti:=C2.of et it (by omega);have ft:=z9 et;have es:=w7 ss;have hbe:=J4 tys hyps [s] (fun f hf=>hc.hyps f hf) (by omega) (by simp) (by omega);have hc2:(Ck.mk lems (tys++[s]) (hyps.map fun f=>f.AV 0 [s].length)).ok:=hc.below (l:=[s]) (by simp only[List.length_singleton];omega) (w9 es);have hs2:Al (tys++[s]):=zp hs (zi ss zm);obtain⟨p1,d2,m1,ok2,hp1⟩:=H lems (tys++[s]) (hyps.map fun f=>f.AV 0 [s].length) d5 (k-1) (by omega) ok5 hc2 hs2;have fp1:=m1.full;have hA:=LF 8 s p1 (by have:=JI es;omega) (by omega);have hm:=Made.all (k:=8) (by omega) es m1;have fm:=hm.full;have hT:=MR 9 t (.mk 8 0 s [] [] [p1]) (by omega) (by omega);refine⟨_,d2,(Made.at_ (k:=9) (by omega) ti hm).up (by omega),ok2,?_⟩;show AW _ _ _ (Code.seq _ _) _ _ _;(repeat' first|refine M.go ?_|refine M.gs ?_ ?_<;>intro h|refine M.z1 3 ?_|refine M.cs ?_ ?_<;>intro h|refine M.gk ?_|fail);all_goals first
  |(exfalso;simp at h;omega)
  |skip
 (repeat' first|refine M.gw ?_|refine M.cb (hx) [0] 0 ?_|refine M.cb (h4) [0] 0 ?_|refine M.cb (h5) [0] 0 ?_|refine M.c2 (hbe) ?_|refine M.cb (hp1) [0] 0 ?_|refine M.c2 (hA) ?_|refine M.c2 (hT) ?_|refine M.bl ?_|fail);all_goals first|exact M.n2 [some 0] (h8:=(by simp[zj,V.wk,V.Ap,za,Ty.view,Tm.view,Pf.view]))
theorem Ybd(n:Nat)(hn:n<=3)(H:EP n)(lems:List Fm)(tys:List Ty)(hyps:List Fm)(hc:(Ck.mk lems tys hyps).ok)(hs:Al tys)(ht:tys.length<10)(hh:hyps.length<10)(d d1:Dk)(ok1:d1.ok)(k:Int)(hk:k=(n:Int)+1)
 (hx:AC E 33 [.ptr 0 0,.i 17] ⟨1,[(0,.var d.cells)]⟩ (.i 15) ⟨1,[(0,.var d1.cells)]⟩):
 Fy n lems tys hyps d k:=by
 have hb:=wd n;have hbs:=xu n;have hbl:=uc (show n<=4 by omega);have hl:=u5 hc;obtain⟨s,d4,ok4,ss,h4⟩:=Kh d1 ok1;obtain⟨t,d5,ok5,et,it,h5⟩:=IB d4 tys s ok4 hs ss hl.1;have ti:=C2.of et it (by omega);have ft:=z9 et;have es:=w7 ss;have hbe:=J4 tys hyps [s] (fun f hf=>hc.hyps f hf) (by omega) (by simp) (by omega);have hc2:(Ck.mk lems (tys++[s]) (hyps.map fun f=>f.AV 0 [s].length)).ok:=hc.below (l:=[s]) (by simp only[List.length_singleton];omega) (w9 es);have hs2:Al (tys++[s]):=zp hs (zi ss zm);obtain⟨p1,d2,m1,ok2,hp1⟩:=H lems (tys++[s]) (hyps.map fun f=>f.AV 0 [s].length) d5 (k-1) (by omega) ok5 hc2 hs2;have fp1:=m1.full;have hA:=LF 12 s p1 (by have:=JI es;omega) (by omega);have hm:=Made.all (k:=12) (by omega) es m1;have fm:=hm.full;have hT:=MR 13 t (.mk 12 0 s [] [] [p1]) (by omega) (by omega);refine⟨_,d2,(Made.at_ (k:=13) (by omega) ti hm).up (by omega),ok2,?_⟩;show AW _ _ _ (Code.seq _ _) _ _ _;(repeat' first|refine M.go ?_|refine M.gs ?_ ?_<;>intro h|refine M.z1 3 ?_|refine M.cs ?_ ?_<;>intro h|refine M.gk ?_|fail);all_goals first
  |(exfalso;simp at h;omega)
  |skip
 (repeat' first|refine M.gw ?_|refine M.cb (hx) [0] 0 ?_|refine M.cb (h4) [0] 0 ?_|refine M.cb (h5) [0] 0 ?_|refine M.c2 (hbe) ?_|refine M.cb (hp1) [0] 0 ?_|refine M.c2 (hA) ?_|refine M.c2 (hT) ?_|refine M.bl ?_|fail);all_goals first|exact M.n2 [some 0] (h8:=(by simp[zj,V.wk,V.Ap,za,Ty.view,Tm.view,Pf.view]))
theorem Ye5(n:Nat)(hn:n<=3)(H:EP n)(lems:List Fm)(tys:List Ty)(hyps:List Fm)(hc:(Ck.mk lems tys hyps).ok)(hs:Al tys)(ht:tys.length<10)(hh:hyps.length<10)(d d1:Dk)(ok1:d1.ok)(k:Int)(hk:k=(n:Int)+1)
 (hx:AC E 33 [.ptr 0 0,.i 17] ⟨1,[(0,.var d.cells)]⟩ (.i 6) ⟨1,[(0,.var d1.cells)]⟩):
 Fy n lems tys hyps d k:=by
 have hb:=wd n;have hbs:=xu n;have hbl:=uc (show n<=4 by omega);have hl:=u5 hc;obtain⟨t,d4,ok4,et,it,h4⟩:∃(t:Tm) (d':Dk),d'.ok/\(t.err=0/\t.size<=60)/\t.inf tys=(Af,0)/\AC E 29 [.ptr 0 0,.s .ty tys,.agg Af.view,.i 1] ⟨1,[(0,.var d1.cells)]⟩ (.agg t.view) ⟨1,[(0,.var d'.cells)]⟩:=
  ⟨_,_,Dk.CA 3 d1 tys Af ok1,⟨(HS d1 hs).1.err,(HS d1 hs).2⟩,(HS d1 hs).1.inf,Ij 3 (by omega) d1 tys Af 1 (by omega) ok1 hs zg (by omega) (by omega) (by omega)⟩
 have tz:=et.2;have et:=et.1;have ti:=C2.of et it (by omega);have ft:=z9 et;obtain⟨i,d5,ok5,hi,h5⟩:=FT d4 2 ok4 (by omega);have hF:=Sc et it (by omega);obtain⟨ee,oe⟩:=SS et it (by omega);have hR:=x8 t (by omega);have h6:=Ex 0;have fe:=yf ee;have lf:=Jw 0 1 t 0 ti.1;have hmr:=Made.ref ti;have fmr:=hmr.full;generalize t.re (zl 0 1) 0=u at*;have h7:=GO u (vT 0) (by omega) (by decide);have hsz:=((Fm.Ae _).1 ee);rcases(show i=0\/i=1 by omega) with rfl|rfl
 ·have hf:=JS (k:=5) (.inl rfl) zg hsz.1 (by omega) oe (by omega);have ff:=hf.2.2;have h8:=Gc 5 Af (AP u (vT 0)) (by decide) (by omega);have h9:=JK 10 (Bo 5 Af (AP u (vT 0))) t (.mk 18 0 (.mk 0 []) [t] [] []) (by omega) (by omega) (by omega);refine⟨_,d5,(Made.ex (k:=10) (by omega) hf ti hmr).up (by omega),ok5,?_⟩;show AW _ _ _ (Code.seq _ _) _ _ _;(repeat' first|refine M.go ?_|refine M.gs ?_ ?_<;>intro h|refine M.z1 3 ?_|refine M.cs ?_ ?_<;>intro h|refine M.gk ?_|fail);all_goals first
   |(exfalso;simp at h;omega)
   |skip
  (repeat' first|refine M.gw ?_|refine M.cb (hx) [0] 0 ?_|refine M.cb (h4) [0] 0 ?_|refine M.cb (h5) [0] 0 ?_|refine M.c2 (hF) ?_|refine M.c2 (h6) ?_|refine M.c2 (h7) ?_|refine M.c2 (h8) ?_|refine M.c2 (hR) ?_|refine M.c2 (h9) ?_|refine M.bl ?_|fail);all_goals first|exact M.n2 [some 0] (h8:=(by simp[zj,V.wk,V.Ap,za,Ty.view,Tm.view,Pf.view]))
 ·have hf:=JS (k:=7) (.inr rfl) zg hsz.1 (by omega) oe (by omega);have ff:=hf.2.2;have h8:=Gc 7 Af (AP u (vT 0)) (by decide) (by omega);have h9:=JK 14 (Bo 7 Af (AP u (vT 0))) t (.mk 18 0 (.mk 0 []) [t] [] []) (by omega) (by omega) (by omega);refine⟨_,d5,(Made.ex (k:=14) (by omega) hf ti hmr).up (by omega),ok5,?_⟩;show AW _ _ _ (Code.seq _ _) _ _ _;(repeat' first|refine M.go ?_|refine M.gs ?_ ?_<;>intro h|refine M.z1 3 ?_|refine M.cs ?_ ?_<;>intro h|refine M.gk ?_|fail);all_goals first
   |(exfalso;simp at h;omega)
   |skip
  (repeat' first|refine M.gw ?_|refine M.cb (hx) [0] 0 ?_|refine M.cb (h4) [0] 0 ?_|refine M.cb (h5) [0] 0 ?_|refine M.c2 (hF) ?_|refine M.c2 (h6) ?_|refine M.c2 (h7) ?_|refine M.c2 (h8) ?_|refine M.c2 (hR) ?_|refine M.c2 (h9) ?_|refine M.bl ?_|fail);all_goals first|exact M.n2 [some 0] (h8:=(by simp[zj,V.wk,V.Ap,za,Ty.view,Tm.view,Pf.view]))
theorem Ygj(n:Nat)(hn:n<=3)(H:EP n)(lems:List Fm)(tys:List Ty)(hyps:List Fm)(hc:(Ck.mk lems tys hyps).ok)(hs:Al tys)(ht:tys.length<10)(hh:hyps.length<10)(d d1:Dk)(ok1:d1.ok)(k:Int)(hk:k=(n:Int)+1)
 (hx:AC E 33 [.ptr 0 0,.i 17] ⟨1,[(0,.var d.cells)]⟩ (.i 7) ⟨1,[(0,.var d1.cells)]⟩):
 Fy n lems tys hyps d k:=by
 have hb:=wd n;have hbs:=xu n;have hbl:=uc (show n<=4 by omega);have hl:=u5 hc;obtain⟨p1,d2,m1,ok2,hp1⟩:=H lems tys hyps d1 (k-1) (by omega) ok1 hc hs;have fp1:=m1.full;obtain⟨x,us,e,hxe,hI⟩:=KS hc hs m1 (by omega);by_cases he:e=0;case neg=>
  obtain⟨p,d',hm,ok',hA⟩:=Jv (n+1) lems tys hyps hc hs d2 ok2 k;refine⟨p,d',hm,ok',?_⟩;show AW _ _ _ (Code.seq _ _) _ _ _;(repeat' first|refine M.go ?_|refine M.gs ?_ ?_<;>intro h|refine M.z1 3 ?_|refine M.cs ?_ ?_<;>intro h|refine M.gk ?_|fail);all_goals first
   |(exfalso;simp at h;omega)
   |skip
  (repeat' first|refine M.go ?_|refine M.cb (hx) [0] 0 ?_|refine M.cb (hp1) [0] 0 ?_|refine M.c2 (hI) ?_|refine M.z1 61 ?_|refine M.bl ?_|refine M.cs ?_ ?_<;>intro h|refine M.gk ?_|fail);all_goals first
   |exact AW.weak (M.W [some 0,some 1,some 2,some 3]) hA
   |(exfalso;simp at h;omega)
   |trace_state
 subst he;obtain⟨ex,ox⟩:=hxe rfl;have fx:=yf ex;have hU:=Ff ox ((Fm.Ae _).1 ex).1 (by have:=((Fm.Ae _).1 ex).2;omega) (by omega) 0 1 (by omega) (by omega);have fl:=Je x 0 1;have sl:=SV ex;obtain⟨s,d4,ok4,ss,h4⟩:=Kh d2 ok2;obtain⟨i,d5,ok5,hi,h5⟩:=FT d4 2 ok4 (by omega);obtain⟨t,d6,ok6,et,it,h6⟩:=IB d5 tys s ok5 hs ss hl.1;have ti:=C2.of et it (by omega);have ft:=z9 et;have ox2:=Si ex ox s;have es:=JI (w7 ss);generalize x.AV 0 1=y at*;rcases(show i=0\/i=1 by omega) with rfl|rfl
 ·have hf:=JS (k:=5) (.inl rfl) ss sl.1 (by omega) ox2 (by omega);have ff:=hf.2.2;have h8:=Gc 5 s y (by omega) (by omega);have h9:=JK 10 (Bo 5 s y) t p1 (by omega) (by omega) (by omega);refine⟨_,d6,(Made.ex (k:=10) (by omega) hf ti m1).up (by omega),ok6,?_⟩;show AW _ _ _ (Code.seq _ _) _ _ _;(repeat' first|refine M.go ?_|refine M.gs ?_ ?_<;>intro h|refine M.z1 3 ?_|refine M.cs ?_ ?_<;>intro h|refine M.gk ?_|fail);all_goals first
   |(exfalso;simp at h;omega)
   |skip
  (repeat' first|refine M.gw ?_|refine M.cb (hx) [0] 0 ?_|refine M.cb (hp1) [0] 0 ?_|refine M.c2 (hI) ?_|refine M.cb (h4) [0] 0 ?_|refine M.cb (h5) [0] 0 ?_|refine M.c2 (hU) ?_|refine M.c2 (h8) ?_|refine M.cb (h6) [0] 0 ?_|refine M.c2 (h9) ?_|refine M.bl ?_|fail);all_goals first|exact M.n2 [some 0] (h8:=(by simp[zj,V.wk,V.Ap,za,Ty.view,Tm.view,Pf.view]))
 ·have hf:=JS (k:=7) (.inr rfl) ss sl.1 (by omega) ox2 (by omega);have ff:=hf.2.2;have h8:=Gc 7 s y (by omega) (by omega);have h9:=JK 14 (Bo 7 s y) t p1 (by omega) (by omega) (by omega);refine⟨_,d6,(Made.ex (k:=14) (by omega) hf ti m1).up (by omega),ok6,?_⟩;show AW _ _ _ (Code.seq _ _) _ _ _;(repeat' first|refine M.go ?_|refine M.gs ?_ ?_<;>intro h|refine M.z1 3 ?_|refine M.cs ?_ ?_<;>intro h|refine M.gk ?_|fail);all_goals first
   |(exfalso;simp at h;omega)
   |skip
  (repeat' first|refine M.gw ?_|refine M.cb (hx) [0] 0 ?_|refine M.cb (hp1) [0] 0 ?_|refine M.c2 (hI) ?_|refine M.cb (h4) [0] 0 ?_|refine M.cb (h5) [0] 0 ?_|refine M.c2 (hU) ?_|refine M.c2 (h8) ?_|refine M.cb (h6) [0] 0 ?_|refine M.c2 (h9) ?_|refine M.bl ?_|fail);all_goals first|exact M.n2 [some 0] (h8:=(by simp[zj,V.wk,V.Ap,za,Ty.view,Tm.view,Pf.view]))
theorem Yem(n:Nat)(hn:n<=3)(H:EP n)(lems:List Fm)(tys:List Ty)(hyps:List Fm)(hc:(Ck.mk lems tys hyps).ok)(hs:Al tys)(ht:tys.length<10)(hh:hyps.length<10)(d d1:Dk)(ok1:d1.ok)(k:Int)(hk:k=(n:Int)+1)
 (hx:AC E 33 [.ptr 0 0,.i 17] ⟨1,[(0,.var d.cells)]⟩ (.i 9) ⟨1,[(0,.var d1.cells)]⟩):
 Fy n lems tys hyps d k:=by
 have hb:=wd n;have hbs:=xu n;have hbl:=uc (show n<=4 by omega);have hl:=u5 hc;obtain⟨p1,d2,m1,ok2,hp1⟩:=H lems tys hyps d1 (k-1) (by omega) ok1 hc hs;have fp1:=m1.full;obtain⟨x,us,e,hxe,hI⟩:=KS hc hs m1 (by omega);by_cases he:e=0;case neg=>
  obtain⟨p,d',hm,ok',hA⟩:=Jv (n+1) lems tys hyps hc hs d2 ok2 k;refine⟨p,d',hm,ok',?_⟩;show AW _ _ _ (Code.seq _ _) _ _ _;(repeat' first|refine M.go ?_|refine M.gs ?_ ?_<;>intro h|refine M.z1 3 ?_|refine M.cs ?_ ?_<;>intro h|refine M.gk ?_|fail);all_goals first
   |(exfalso;simp at h;omega)
   |skip
  (repeat' first|refine M.go ?_|refine M.cb (hx) [0] 0 ?_|refine M.cb (hp1) [0] 0 ?_|refine M.c2 (hI) ?_|refine M.z1 61 ?_|refine M.bl ?_|refine M.cs ?_ ?_<;>intro h|refine M.gk ?_|fail);all_goals first
   |exact AW.weak (M.W [some 0,some 1,some 2,some 3]) hA
   |(exfalso;simp at h;omega)
   |trace_state
 subst he;obtain⟨ex,ox⟩:=hxe rfl;have fx:=yf ex;have hU:=Ff ox ((Fm.Ae _).1 ex).1 (by have:=((Fm.Ae _).1 ex).2;omega) (by omega) 0 1 (by omega) (by omega);have fl:=Je x 0 1;have sl:=SV ex;obtain⟨t,d6,ok6,et,it,h6⟩:=IB d2 tys Af ok2 hs zg hl.1;have ti:=C2.of et it (by omega);have ft:=z9 et;have hf:=M9 ex ox Af (by omega);generalize x.AV 0 1=y at*;have hy:=Jm 0;have mh:Made 10 (xo 0):=Made.hyp (by omega);have fh:=mh.full;have hli:=Fe;have h9:=LH 16 y t p1 (xo 0) (by omega) (by omega) (by omega) (by omega);refine⟨_,d6,(Made.ind (k:=16) (by omega) hf ti m1 mh).up (by omega),ok6,?_⟩;show AW _ _ _ (Code.seq _ _) _ _ _;(repeat' first|refine M.go ?_|refine M.gs ?_ ?_<;>intro h|refine M.z1 3 ?_|refine M.cs ?_ ?_<;>intro h|refine M.gk ?_|fail);all_goals first
  |(exfalso;simp at h;omega)
  |skip
 (repeat' first|refine M.gw ?_|refine M.cb (hx) [0] 0 ?_|refine M.cb (hp1) [0] 0 ?_|refine M.c2 (hI) ?_|refine M.c2 (hU) ?_|refine M.cb (h6) [0] 0 ?_|refine M.c2 (hy) ?_|refine M.c2 (h9) ?_|refine M.bl ?_|fail);all_goals first|exact M.n2 [some 0] (h8:=(by simp[zj,V.wk,V.Ap,za,Ty.view,Tm.view,Pf.view]))
theorem Ybk(n:Nat)(hn:n<=3)(H:EP n)(lems:List Fm)(tys:List Ty)(hyps:List Fm)(hc:(Ck.mk lems tys hyps).ok)(hs:Al tys)(ht:tys.length<10)(hh:hyps.length<10)(d d1:Dk)(ok1:d1.ok)(k:Int)(hk:k=(n:Int)+1)
 (hx:AC E 33 [.ptr 0 0,.i 17] ⟨1,[(0,.var d.cells)]⟩ (.i 10) ⟨1,[(0,.var d1.cells)]⟩):
 Fy n lems tys hyps d k:=by
 have hb:=wd n;have hbs:=xu n;have hbl:=uc (show n<=4 by omega);have hl:=u5 hc;obtain⟨p1,d2,m1,ok2,hp1⟩:=H lems tys hyps d1 (k-1) (by omega) ok1 hc hs;have fp1:=m1.full;obtain⟨x,us,e,hxe,hI⟩:=KS hc hs m1 (by omega);by_cases he:e=0;case neg=>
  obtain⟨p,d',hm,ok',hA⟩:=Jv (n+1) lems tys hyps hc hs d2 ok2 k;refine⟨p,d',hm,ok',?_⟩;show AW _ _ _ (Code.seq _ _) _ _ _;(repeat' first|refine M.go ?_|refine M.gs ?_ ?_<;>intro h|refine M.z1 3 ?_|refine M.cs ?_ ?_<;>intro h|refine M.gk ?_|fail);all_goals first
   |(exfalso;simp at h;omega)
   |skip
  (repeat' first|refine M.go ?_|refine M.cb (hx) [0] 0 ?_|refine M.cb (hp1) [0] 0 ?_|refine M.c2 (hI) ?_|refine M.z1 61 ?_|refine M.bl ?_|refine M.cs ?_ ?_<;>intro h|refine M.gk ?_|fail);all_goals first
   |exact AW.weak (M.W [some 0,some 1,some 2,some 3]) hA
   |(exfalso;simp at h;omega)
   |trace_state
 subst he;obtain⟨ex,ox⟩:=hxe rfl;have fx:=yf ex;have hU:=Ff ox ((Fm.Ae _).1 ex).1 (by have:=((Fm.Ae _).1 ex).2;omega) (by omega) 0 1 (by omega) (by omega);have fl:=Je x 0 1;have sl:=SV ex;obtain⟨t,d6,ok6,et,it,h6⟩:=IB d2 tys Am ok2 hs yw hl.1;have ti:=C2.of et it (by omega);have ft:=z9 et;have hf:=M9 ex ox Af (by omega);generalize x.AV 0 1=y at*;have hy:=Jm 0;have mh:Made 10 (xo 0):=Made.hyp (by omega);have fh:=mh.full;have hli:=Fe;have h9:=LH 17 y t p1 (xo 0) (by omega) (by omega) (by omega) (by omega);refine⟨_,d6,(Made.ind (k:=17) (by omega) hf ti m1 mh).up (by omega),ok6,?_⟩;show AW _ _ _ (Code.seq _ _) _ _ _;(repeat' first|refine M.go ?_|refine M.gs ?_ ?_<;>intro h|refine M.z1 3 ?_|refine M.cs ?_ ?_<;>intro h|refine M.gk ?_|fail);all_goals first
  |(exfalso;simp at h;omega)
  |skip
 (repeat' first|refine M.gw ?_|refine M.cb (hx) [0] 0 ?_|refine M.cb (hp1) [0] 0 ?_|refine M.c2 (hI) ?_|refine M.c2 (hU) ?_|refine M.c2 (hli) ?_|refine M.cb (h6) [0] 0 ?_|refine M.c2 (hy) ?_|refine M.c2 (h9) ?_|refine M.bl ?_|fail);all_goals first|exact M.n2 [some 0] (h8:=(by simp[zj,V.wk,V.Ap,za,Ty.view,Tm.view,Pf.view]))
theorem Yb2(n:Nat)(hn:n<=3)(H:EP n)(lems:List Fm)(tys:List Ty)(hyps:List Fm)(hc:(Ck.mk lems tys hyps).ok)(hs:Al tys)(ht:tys.length<10)(hh:hyps.length<10)(d d1:Dk)(ok1:d1.ok)(k:Int)(hk:k=(n:Int)+1)
 (hx:AC E 33 [.ptr 0 0,.i 17] ⟨1,[(0,.var d.cells)]⟩ (.i 11) ⟨1,[(0,.var d1.cells)]⟩):
 Fy n lems tys hyps d k:=by
 have hb:=wd n;have hbs:=xu n;have hbl:=uc (show n<=4 by omega);have hl:=u5 hc;obtain⟨t,d4,ok4,et,it,h4⟩:=IB d1 tys Af ok1 hs zg hl.1;have ti:=C2.of et it (by omega);have ft:=z9 et;have h5:=TS t (by omega);have mz:Made 2000000 (I7 t):=by
  have s1:Made 700000 Cc:=(Made.sub (f:=AP (AO (D9.re (zl 0 1) 0) (Cl.re (zl 0 1) 0)) (AO (D9.re (zl 0 1) 0) (vT 0))) (N5 _ (by decide+kernel) (by decide+kernel) (by decide+kernel)) (Made.hyp (i:=0) (by omega)) (Made.ref (t:=AO D9 Cl) (Hh _ (by decide+kernel) (by decide+kernel) (by decide+kernel)))).up (by omega);exact(Made.ind (k:=16) (by omega) (f:=AP Cl (vT 0)) (t:=t) (N5 _ (by decide+kernel) (by decide+kernel) (by decide+kernel)) ti (Made.ref (Hh zT (by decide) (by decide) (by decide))) s1).up (by omega)
 refine⟨_,d4,mz.up (by omega),ok4,?_⟩;unfold I7 at h5 ⊢;show AW _ _ _ (Code.seq _ _) _ _ _;(repeat' first|refine M.go ?_|refine M.gs ?_ ?_<;>intro h|refine M.z1 3 ?_|refine M.cs ?_ ?_<;>intro h|refine M.gk ?_|fail);all_goals first
  |(exfalso;simp at h;omega)
  |skip
 (repeat' first|refine M.gw ?_|refine M.cb (hx) [0] 0 ?_|refine M.cb (h4) [0] 0 ?_|refine M.c2 (h5) ?_|refine M.bl ?_|fail);all_goals first|exact M.n2 [some 0] (h8:=(by simp[zj,V.wk,V.Ap,za,Ty.view,Tm.view,Pf.view]))
theorem Yag(n:Nat)(hn:n<=3)(H:EP n)(lems:List Fm)(tys:List Ty)(hyps:List Fm)(hc:(Ck.mk lems tys hyps).ok)(hs:Al tys)(ht:tys.length<10)(hh:hyps.length<10)(d d1:Dk)(ok1:d1.ok)(k:Int)(hk:k=(n:Int)+1)
 (hx:AC E 33 [.ptr 0 0,.i 17] ⟨1,[(0,.var d.cells)]⟩ (.i 12) ⟨1,[(0,.var d1.cells)]⟩):
 Fy n lems tys hyps d k:=by
 have hb:=wd n;have hbs:=xu n;have hbl:=uc (show n<=4 by omega);have hl:=u5 hc;obtain⟨t,d4,ok4,et,it,h4⟩:=IB d1 tys Af ok1 hs zg hl.1;have ti:=C2.of et it (by omega);have ft:=z9 et;obtain⟨u,d5,ok5,eu,zu,iu,h5⟩:=R9 d4 tys ok4 hs hl.1;have fu6:=K0 u ((Tm.Ae u).1 eu).1;have ui:=C2.of eu iu (by omega);have fu:=z9 eu;have hF:=Sc eu iu (by omega);obtain⟨l1,l2,l3⟩:=Tc eu iu;have lf:=Jw 0 1 u 0 ui.1;have hsz:=((Tm.Ae _).1 eu);have hf:DY (AP (u.re (zl 0 1) 0) (u.re (zl 0 1) 0)):=by
  have h1:=Jt l2 l2;refine⟨h1,fun q hq r hr=> ?_,by rw[Nx];omega⟩;have:=PT _ _ 0 h1 (CL.2 ⟨l1,l1⟩) q hq r hr;rw[I6,l3] at this;simp only[List.length_append,List.length_singleton] at this;omega
 generalize u.re (zl 0 1) 0=w at*;have h6:=GO w w (by omega) (by omega);have h7:=x8 t (by omega);have h8:=x8 u (by omega);have m1:=Made.ref ti;have m2:=Made.ref ui;have f1:=m1.full;have f2:=m2.full;have ff:=hf.2.2;have h9:=UN (AP w w) (.mk 18 0 (.mk 0 []) [t] [] []) (.mk 18 0 (.mk 0 []) [u] [] []) (by omega) (by omega) (by omega);refine⟨_,d5,(Made.sub hf m1 m2).up (by omega),ok5,?_⟩;show AW _ _ _ (Code.seq _ _) _ _ _;(repeat' first|refine M.go ?_|refine M.gs ?_ ?_<;>intro h|refine M.z1 3 ?_|refine M.cs ?_ ?_<;>intro h|refine M.gk ?_|fail);all_goals first
  |(exfalso;simp at h;omega)
  |skip
 (repeat' first|refine M.gw ?_|refine M.cb (hx) [0] 0 ?_|refine M.cb (h4) [0] 0 ?_|refine M.cb (h5) [0] 0 ?_|refine M.c2 (hF) ?_|refine M.c2 (h6) ?_|refine M.c2 (h7) ?_|refine M.c2 (h8) ?_|refine M.c2 (h9) ?_|refine M.bl ?_|fail);all_goals first|exact M.n2 [some 0] (h8:=(by simp[zj,V.wk,V.Ap,za,Ty.view,Tm.view,Pf.view]))
theorem Yap(n:Nat)(hn:n<=3)(H:EP n)(lems:List Fm)(tys:List Ty)(hyps:List Fm)(hc:(Ck.mk lems tys hyps).ok)(hs:Al tys)(ht:tys.length<10)(hh:hyps.length<10)(d d1:Dk)(ok1:d1.ok)(k:Int)(hk:k=(n:Int)+1)
 (hx:AC E 33 [.ptr 0 0,.i 17] ⟨1,[(0,.var d.cells)]⟩ (.i 13) ⟨1,[(0,.var d1.cells)]⟩):
 Fy n lems tys hyps d k:=by
 have hb:=wd n;have hbs:=xu n;have hbl:=uc (show n<=4 by omega);have hl:=u5 hc;obtain⟨s,d4,ok4,ss,h4⟩:=QC d1 ok1;have es:=w7 ss;have hbe:=J4 tys hyps [s] (fun f hf=>hc.hyps f hf) (by omega) (by simp) (by omega);have hc2:(Ck.mk lems (tys++[s]) (hyps.map fun f=>f.AV 0 [s].length)).ok:=hc.below (l:=[s]) (by simp only[List.length_singleton];omega) (w9 es);have hs2:Al (tys++[s]):=zp hs (zi ss zm);have hl2:(tys++[s]).length<=16:=by simp;omega
 have h5:=(WR d4 ok4 (tys++[s]) (hyps.map fun f=>f.AV 0 [s].length) hs2 hl2).2;have mn:=(HS d4 hs2);have ok5:=Dk.CA 3 d4 (tys++[s]) Af ok4;generalize Dk.tm 3 d4 (tys++[s]) Af=T at*;obtain⟨t,d5⟩:=T;simp only at mn ok5;have ti:=C2.of mn.1.err mn.1.inf (by omega);obtain⟨ee,oe⟩:=SS mn.1.err mn.1.inf (by omega);have hsz:=((Fm.Ae _).1 ee);have hf:=JS (k:=5) (.inl rfl) zg hsz.1 (by omega) oe (by omega);have m1:Made 1000000 (HJ (IX t) t (xe t)):=(Made.ex (k:=10) (by omega) hf ti (Made.ref ti)).up (by omega);have f1:=m1.full;unfold HJ at h5 m1 f1;have hA:=LF 8 s (.mk 10 0 (.mk 0 []) [t] [IX t] [xe t]) (by have:=JI es;omega) (by omega);have m2:=Made.all (k:=8) (by omega) es m1;have f2:=m2.full;have hP:=w8 20 [.mk 8 0 s [] [] [.mk 10 0 (.mk 0 []) [t] [IX t] [xe t]]] (by simp) (w9 (by omega));refine⟨_,d5,(Made.one (k:=20) (by omega) m2).up (by omega),ok5,?_⟩;show AW _ _ _ (Code.seq _ _) _ _ _;(repeat' first|refine M.go ?_|refine M.gs ?_ ?_<;>intro h|refine M.z1 3 ?_|refine M.cs ?_ ?_<;>intro h|refine M.gk ?_|fail);all_goals first
  |(exfalso;simp at h;omega)
  |skip
 (repeat' first|refine M.gw ?_|refine M.cb (hx) [0] 0 ?_|refine M.cb (h4) [0] 0 ?_|refine M.c2 (hbe) ?_|refine M.cb (h5) [0] 0 ?_|refine M.c2 (hA) ?_|refine M.c2 (hP) ?_|refine M.bl ?_|fail);all_goals first|exact M.n2 [some 0] (h8:=(by simp[zj,V.wk,V.Ap,za,Ty.view,Tm.view,Pf.view]))
end Go.Ab
