/- A part of this seat's proofs. No conditions. -/
import Derived.Test.YtmhcohcihajegaaGreatDoorCS19
namespace Go.Ab
open Go Go.Proofs
set_option maxRecDepth 100000
set_option maxHeartbeats 4000000
set_option linter.all false
theorem Dx(a b:Tm):(AV a b).full=2+a.full+b.full:=by
 simp only[AV,Fm.full,Fm.Ay,fJ,fU,fT,gu,Ty.size,Ty.sizes];omega
theorem Nq(i:Int):(vT i).full=2:=by simp only[vT,Tm.full,Tm.Ay,Ty.size,Ty.sizes]
theorem NT(f x:Tm):(AE f x).full=2+f.full+x.full:=by
 simp only[AE,Tm.full,Tm.Ay,Ty.size,Ty.sizes];omega
theorem Lz(i:Int):PC E 35 [.i i] (.agg (vd i).view):=by
 refine M.F Tryz.func35 ?_;refine M.w0 ?_
 rfl
theorem bZ(t:Tm)(he:t.shape=true)(hf:t.full<100000000000)(hix:∀p∈t.vars 0,0<=p.1/\p.1<549755813888):PC E 184 [.agg t.view,.i 1] (.agg (t.re (zi 0 1) 0).view):=by
 have h:=SU 1 kn _ t 0 (fB _) kn kn kn he hix;generalize t.re (zi 0 1) 0=u at*;refine M.F Tryz.func184 ?_;refine M.w1 @h ?_;simp[zn,V.wk,V.Ar,za,Ty.view,Tm.view]
theorem Ydv(g s:Tm)(p:Pf)(hg:DA g)(hs:DA s)(hp:p.full<100000000000):PC E 141 [.agg g.view,.agg s.view,.agg p.view] (.agg (JL g s p).view):=by
 have f1:=hg.2.2;have f2:=hs.2.2;have l1:=LA 0 1 g 0 hg.1;have l2:=LA 0 1 s 0 hs.1;have h1:=bZ g hg.1 kn (fun q hq=>by have:=hg.2.1 q hq;omega);have h2:=bZ s hs.1 kn (fun q hq=>by have:=hs.2.1 q hq;omega);have h3:=Fg 0;have h4:=Dj 3 [g,s] kC;unfold JL ZN xz;generalize g.re (zi 0 1) 0=g1 at*;generalize s.re (zi 0 1) 0=s1 at*;have h5:=Dj 3 [g1,s1] kC;have h6:=Dj 3 [g1,vT 0] (by simp[Nq];omega);have h7:=JY (AE g1 s1) (AE g1 (vT 0)) (by rw[NT];omega) (by rw[NT,Nq];omega);have h8:=vj (AE g s) (by rw[NT];omega);have h9:=YW (AV (AE g1 s1) (AE g1 (vT 0))) p (.mk 18 0 (.mk 0 []) [AE g s] [] []) (by rw[Dx,NT,NT,Nq];omega) kn (by rw[uo,Iy];simp[NT];omega);refine M.F Tryz.func141 ?_;(repeat' first|refine M.w6 @h1 @h2 @h3 @h4 @h5 @h6 ?_|refine M.c2 (h7) ?_|refine M.c2 (h8) ?_|refine M.c2 (h9) ?_|fail);all_goals first
  |rfl
  |trace_state
theorem Zt9(ts:List Tm)(p:Pf)(ht:∀t∈ts,t.err=0)(hp:p.err=0)(hpf:p.full<500000000000)(hl:ts.length<=1000):PC E 142 [.s .tm ts,.s .fm [],.s .pf [p]] (.i 0):=by
 have hk:=aI p kn;rw[hp] at hk;refine M.F Tryz.func142 ?_;refine M.w0 ?_;refine M.rt ts.length (fun m=>([(1,.s .fm []),(2,.s .pf [p]),(16,.s .tm ts),(17,.i ts.length),(18,.i m)],⟨0,[]⟩))
  (M.W []) ?_ ?_
 .intro m hm _;have hc:=LS ts[m] (by have:=ye (ht _ (fA hm));omega);rw[ht _ (fA hm)] at hc;refine M.w1 @hc ?_;exact⟨rfl,trivial,(M.W [])⟩
 intro _;refine M.w0 ?_;refine AW.range ([]:List Fm).length (fun m=>True) (fun m=>([(2,.s .pf [p]),(28,.s .fm []),(29,.i ([]:List Fm).length),(30,.i m)],⟨0,[]⟩))
  ko (fun m=>rfl) (fun m=>rfl) rfl trivial (M.W []) ?_ ?_
 .intro m hm _;exact absurd hm ko
 intro _;refine M.w0 ?_;refine AW.range ([p]:List Pf).length (fun m=>True) (fun m=>([(40,.s .pf [p]),(41,.i ([p]:List Pf).length),(42,.i m)],⟨0,[]⟩))
  ko (fun m=>rfl) (fun m=>rfl) rfl trivial (M.W []) ?_ ?_
 .intro m hm _;obtain rfl:m=0:=nA
  refine M.w1 @hk ?_;exact⟨rfl,trivial,(M.W [])⟩
 intro _;refine M.w0 ?_
 rfl
theorem Zyn(p:Pf)(hp:p.err=0)(hpf:p.full<500000000000):PC E 140 [.agg p.view,.i 0] (.AP [.agg p.view,.i 0]):=by
 have h1:=Yp p kn;have h2:=(Pf.Aa p).1 hp;have e:(p.small&&decide (p.size<=16384))=true:=by simp[h2.2.1,h2.2.2]
 rw[e] at h1;have h3:=aN _ p (fB _) kn;refine M.F Tryz.func140 ?_;refine M.w2 @h1 @h3 ?_
 rfl
theorem Zzb(g s t:Tm)(p:Pf)(hg:DA g)(hs:DA s)(eg:g.err=0)(es:s.err=0)(et:t.err=0)(ep:p.err=0)(hp:p.full<100000000000)(ec:(JL g s p).err=0):
 PC E 95 [.agg g.view,.agg s.view,.agg t.view,.agg p.view] (.AP [.agg (JL g s p).view,.i 0]):=by
 have f1:=hg.2.2;have f2:=hs.2.2;have h1:=Ydv g s p hg hs hp;have h2:=Zt9 [g,s,t] p (by simp[eg,es,et]) ep kn ko;have h3:=Zyn (JL g s p) ec (by have:=Of _ ((Pf.Aa _).1 ec).1;have:=((Pf.Aa _).1 ec).2.2;omega);generalize JL g s p=P at*;refine M.F Tryz.func95 ?_;refine M.w3 @h1 @h2 @h3 ?_;all_goals first
  |rfl
  |trace_state
def CI:Tm:=AE (AE Bt zT) (vT 0)
def CG:Pf:=JL Fh CI (vd 0)
def Mg(t:Tm):Pf:= .mk 16 0 (.mk 0 []) [t] [AV CI (vT 0)] [xz zT,CG]
theorem JT(t:Tm)(h1:t.shape=true)(h2:(t.vars 0).all (fun q=>decide (0<=q.1/\q.1<10000))=true)(h3:t.full<=300000):DA t:=
 ⟨h1,fun q hq=>by simpa using List.all_eq_true.1 h2 q hq,h3⟩
theorem bS(t:Tm)(ht:t.full<100000000000):PC E 36 [.agg t.view] (.agg (Mg t).view):=by
 have h1:=ZJ;have h2:=JR 0;have e0:vu 0=zT:=kq
 rw[e0] at h2;have h3:=Fg 0;have h4:=WR Bt [zT,vT 0] kq;have h5:=JY CI (vT 0) kq kq;have h6:=DR;have h7:=Dj 5 [vT 0] kq;have h8:=G9 2 Ac [sT (vT 0)] kq kq;have h9:=Lz 0;have h10:=Zzb Fh CI (vT 0) (vd 0) (JT _ kE kE kE) (JT _ kE kE kE) kE kE kE kE kE kE;have hz:CG.full<1000:=kE
 have h11:=vj zT kq;have h12:=Po 16 (AV CI (vT 0)) t (.mk 18 0 (.mk 0 []) [zT] [] []) CG kE kn kE kn;have e1:JL Fh CI (vd 0)=CG:=rfl;rw[e1] at h10;have e2:List.foldl AE Bt [zT,vT 0]=CI:=rfl;rw[e2] at h4;unfold Mg;generalize CG=Z at*;generalize vd 0=H at*;generalize CI=P0 at*;refine M.F Tryz.func36 ?_;(repeat' first|refine M.w6 @h1 @h2 @h3 @h4 @h5 @h6 ?_|refine M.c2 (h7) ?_|refine M.c2 (h8) ?_|refine M.c2 (h9) ?_|refine M.c2 (h10) ?_|refine M.c2 (h11) ?_|refine M.c2 (h12) ?_|fail);all_goals first
  |rfl
  |trace_state
def L9(t:Tm):Fm:=AL 5 Ac (AV (t.re (zi 0 1) 0) (vT 0))
theorem bW(d:Dk)(hd:d.ok)(g:List Ty)(hyps:List Fm)(hg:Aj g)(hl:g.length<=16):
 AC E 67 [.ptr 0 0,.agg [.s .ty g,.s .fm hyps]] ⟨1,[(0,.var d.cells)]⟩ (.agg [.i 10,.i 0,.i 0,.s .ty [],.s .tm [(Dk.tm 3 d g Ac).1],.arr 1 1 5,.s .pf [xz (Dk.tm 3 d g Ac).1]])
  ⟨2,[(0,.var (Dk.tm 3 d g Ac).2.cells),(1,.var (L9 (Dk.tm 3 d g Ac).1).view)]⟩/\
 AC E 67 [.ptr 0 0,.agg [.s .ty g,.s .fm hyps]] ⟨1,[(0,.var d.cells)]⟩ (.agg (PZ (L9 (Dk.tm 3 d g Ac).1) (Dk.tm 3 d g Ac).1 (xz (Dk.tm 3 d g Ac).1)).view)
  ⟨1,[(0,.var (Dk.tm 3 d g Ac).2.cells)]⟩:=by
 have h1:=DR;have h2:=LF 3 kn d g Ac 1 kn hd hg zj kn kn kn;have hm:=(J4 d hg).1;have hf:=ye hm.err;generalize Dk.tm 3 d g Ac=T at*;obtain⟨t,d2⟩:=T;simp only at hm hf;have h3:=VW (g:=g) hm.err hm.inf kn;have h4:=Fg 0;have l1:=LA 0 1 t 0 hm.shape;have h7:=vj t kn;unfold L9 PZ xz;generalize t.re (zi 0 1) 0=u at*;have h5:=JY u (vT 0) kn (by rw[Nq];omega);have h6:=HS 5 Ac (AV u (vT 0)) kq (by rw[Dx,Nq];omega);have fq:(AL 5 Ac (AV u (vT 0))).full<1000000:=by have e:Ac.size=1:=rfl;simp only[AL,Fm.full,Fm.Ay,fU,gu];rw[Dx,Nq,e];omega
 have fr:(Pf.mk 18 0 (.mk 0 []) [t] [] []).full<1000000:=by rw[uo,Iy];simp;omega
 have h8:=Yi5 10 (AL 5 Ac (AV u (vT 0))) t (.mk 18 0 (.mk 0 []) [t] [] []) kn kn kn;have h9:=LK 10 (AL 5 Ac (AV u (vT 0))) t (.mk 18 0 (.mk 0 []) [t] [] []) kn kn kn;constructor
 .refine M.F Tryz.func67 ?_;(repeat' first|refine M.w6 @h1 @h2 @h3 @h4 @h5 @h6 ?_|refine M.c2 (h7) ?_|refine M.cb (h8) [] 1 ?_|fail);refine K.rt [some 0,some 5] rfl rfl rfl rfl rfl ?_ rfl ?_
  .exact ⟨⟨_,rfl,_,rfl,_,rfl,BA.refl _⟩,⟨_,rfl,_,rfl,_,rfl,BA.refl _⟩,trivial⟩
  .exact sQ
 .refine M.F Tryz.func67 ?_;(repeat' first|refine M.w6 @h1 @h2 @h3 @h4 @h5 @h6 ?_|refine M.c2 (h7) ?_|refine M.c2 (h9) ?_|fail)
  (exact M.n2 AJ (h8:=kG))
def Dk.Vv(d:Dk):Nat:=(d.next 3).1.toNat
def Dk.lm(d:Dk):List Fm×Dk:=Dk.DP d.Vv (d.next 3).2 []
theorem Dk.L3(d:Dk):d.lm.1.length<=2:=by
 have:=Dk.BC d 3 kn;unfold Dk.lm Dk.Vv;rw[Dk.DD];omega
theorem Dk.KT{d:Dk}(h:d.ok):d.lm.2.ok:=Dk.EF _ _ _ (Dk.AQ h 3)
theorem Yht(d:Dk)(hd:d.ok):AC E 9 [.ptr 0 0] ⟨1,[(0,.var d.cells)]⟩ (.s .fm d.lm.1) ⟨1,[(0,.var d.lm.2.cells)]⟩:=by
 have h1:=FX d 3 hd kn;have hb:=Dk.BC d 3 kn;obtain⟨c,hc⟩:∃c:Nat,(d.next 3).1=c:=⟨(d.next 3).1.toNat,kn⟩;have hx:d.lm=Dk.DP c (d.next 3).2 []:=by unfold Dk.lm Dk.Vv;rw[hc];rfl
 rw[hc] at h1 hb;rw[hx];have hdo:=Dk.AQ hd 3;generalize (d.next 3).2=d2 at*;refine M.F Tryz.func9 ?_;refine M.w1 @h1 ?_;refine AW.down c (fun m=>m<=c)
  (fun m=>([(0,.ptr 0 0),(3,.slice (.own 1) (.t .fm (Dk.DP (c-m) d2 []).1)),(4,.i m)],⟨2,[(0,.var (Dk.DP (c-m) d2 []).2.cells),(1,.row)]⟩))
  kn (fun m=>rfl) rfl (fB _) ?_ ?_ ?_
 .simp only[jd];exact(M.W Rb)
 .intro m hm hP;have e:=Dk.EA (c-(m+1)) d2 [];rw[show c-(m+1)+1=c-m by omega] at e;have h3:=Wo 2 (Dk.DP (c-(m+1)) d2 []).2 [] 2 kn rfl (Dk.EF _ _ _ hdo) zk ko;have hl:=Dk.DD (c-(m+1)) d2 [];refine M.w1 @h3 ?_;refine⟨rfl,kn,?_⟩;simp only[e];exact(M.W [some 0,some 2])
 .intro _;simp only[jZ];refine M.w0 ?_
  (exact M.n2 AJ (h8:=kR))
end Go.Ab
