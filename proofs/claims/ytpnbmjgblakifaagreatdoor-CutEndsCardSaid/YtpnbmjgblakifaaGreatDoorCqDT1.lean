/- A part of the proofs of this seat. No conditions. -/
import Derived.Test.YtpnbmjgblakifaaGreatDoorACqDT1
import Derived.Test.YtpnbmjgblakifaaGreatDoorBCqDT1
namespace Go.Ab
open Go
set_option linter.all false
theorem PV(fr b v w:Int):∀(l:List Pf) (m:Nat) (h:m<l.length) (h':m<(Pf.lhs fr b v w l).length),(Pf.lhs fr b v w l)[m]=l[m].lh fr b (if m+1=l.length then v+w else v)
 |p::l,0,h,h'=>by
  simp only[Pf.lhs,List.getElem_cons_zero,List.length_cons];by_cases e:l.length=0
  ·rw[if_pos e,if_pos (by omega)]
  ·rw[if_neg e,if_neg (by omega)]
 |p::l,m+1,h,h'=>by
  simp only[Pf.lhs,List.getElem_cons_succ,List.length_cons,Nat.add_right_cancel_iff];exact PV fr b v w l m (by simpa using h) _
theorem PJ{p:Pf}{C C':Int}(h:p.lx C)(hc:C<=C'):p.lx C':=by
 induction p using Pf.ind with
 |h p ih=>
  obtain⟨h1,h2⟩:=(Pf.BC C p).1 h;exact(Pf.BC C' p).2 ⟨fun hk=>by have:=h1 hk;omega,fun x hx=>ih x hx (h2 x hx)⟩
theorem Zn0{p:Pf}(h:p.direct=true):vm p=false:=by
 rw[Pf.B9] at h;cases e:vm p with
 |false=>rfl
 |true=>rw[e,if_pos rfl] at h;cases h
theorem WN(t:Tm):∀b,∀q∈t.vars b,b<=q.2/\q.2<=b+t.size:=by
 induction t using Tm.ind with
 |h t ih=>
  intro b q hq;have hz:=t.size_eq;rw[t.AQ,List.mem_append] at hq;rcases hq with hq|hq
  ·split at hq
   ·simp only[List.mem_singleton] at hq;subst hq;simp only;omega
   ·cases hq
  ·obtain ⟨x,hx,hq⟩:=List.mem_flatMap.1 hq;have h1:=ih x hx _ q hq;have h2:=zc Tm.size hx;have h3:b<=up t.kind b/\up t.kind b<=b+1:=by unfold up;split<;>omega
   omega
theorem Zyx(f:Fm):∀b,∀q∈f.A2 b,b<=q.2/\q.2<=b+f.size/\q.1.size<=f.size:=by
 induction f using Fm.ind with
 |h f ih=>
  intro b q hq;have hz:=f.size_eq;rw[f.A5,List.mem_append] at hq;rcases hq with hq|hq
  ·obtain ⟨t,ht,rfl⟩:=List.mem_map.1 hq;have h2:=zc Tm.size ht;simp only;omega
  ·obtain ⟨x,hx,hq⟩:=List.mem_flatMap.1 hq;have h1:=ih x hx _ q hq;have h2:=zc Fm.size hx;have h3:b<=A3 f.kind b/\A3 f.kind b<=b+1:=by unfold A3;split<;>omega
   omega
theorem VT{t s:Tm}(ht:t.shape=true)(hs:s.shape=true){a C:Int}(ha:0<=a)(h:∀q∈t.vars 0,0<=q.1/\q.1<C)(h2:∀q∈s.vars 0,0<=q.1/\q.1<C):
 (t.re (xd a s) 0).shape=true/\∀q∈(t.re (xd a s) 0).vars 0,0<=q.1/\q.1<C+a+t.size:=by
 have hsh:=Mo (at_:=a) 0 hs ht (by omega) ha fun p hp=>by have:=WN t 0 p hp;omega
 refine⟨hsh,fun q hq=>⟨Tm.AJ _ hsh 0 q hq,?_⟩⟩;rw[PG _ _ _ ht] at hq;obtain⟨p,hp,hq⟩:=List.mem_flatMap.1 hq;have hd:=WN t 0 p hp;have hb:=h p hp;unfold xd at hq;by_cases hc:p.1-p.2=a
 ·rw[if_pos hc] at hq;obtain⟨q',hq',e⟩:=OX (b':=0) q hq;have:=OE (fr:=0) (by_:=a+p.2) (C:=C-1) hs (by omega) (fun r hr=>by have:=h2 r hr;omega) q' hq';omega
 ·rw[if_neg hc] at hq;simp only[Tm.vars,Tm.BX,if_true,List.append_nil,List.mem_singleton] at hq;subst hq;simp only;split<;>omega
theorem Yax{f:Fm}{s:Tm}(hf:f.shape=true)(hs:s.shape=true){a C:Int}(ha:0<=a)(h:∀q∈f.A2 0,∀r∈q.1.vars 0,0<=r.1/\r.1<C)(h2:∀q∈s.vars 0,0<=q.1/\q.1<C):
 ∀q∈(f.put a s).A2 0,∀r∈q.1.vars 0,0<=r.1/\r.1<C+a+2*f.size:=by
 intro q hq r hr;rw[Fm.put,P9] at hq;obtain⟨p,hp,rfl⟩:=List.mem_map.1 hq;have hd:=Zyx f 0 p hp;have:=(VT (a:=a+p.2) (C:=C) (IZ f hf 0 p hp) hs (by omega) (h p hp) h2).2 r hr;omega
theorem Yl4{s:Tm}{C:Int}(hs:s.shape=true)(h2:∀q∈s.vars 0,0<=q.1/\q.1<C)(p:Pf):p.shape=true->p.small=true->p.ix C->∀v:Int,0<=v->v+2*p.size<=200000->(p.pt 0 s v).ix (C+250000):=by
 induction p using Pf.ind with
 |h p ih=>
  intro hp hm hix v hv hvz;obtain⟨s1,s2,s3⟩:=xj hm;obtain⟨_,s4,s5,s6⟩:=zh hp;obtain⟨i1,i2,i3⟩:=(Pf.Be _ p).1 hix;have hz:=p.size_eq;have fv:0<=AD p.kind/\AD p.kind<=2:=by unfold AD;split<;>(try split)<;>omega
  have b1:0<=As p.kind/\As p.kind<=2:=by unfold As;split<;>(try split)<;>omega
  rw[Pf.DT,Pf.Be];simp only[Pf.Ai,Pf.Ar,Pf.Ad];refine⟨fun t ht q hq=> ?_,fun f hf q hq r hr=> ?_,fun x hx=> ?_⟩
  ·obtain ⟨u,hu,rfl⟩:=List.mem_map.1 ht;have:=(VT (a:=0+v) (s4 u hu) hs (by omega) (i1 u hu) h2).2 q hq;have:=s1 u hu;omega
  ·obtain ⟨u,hu,rfl⟩:=List.mem_map.1 hf;have:=Yax (a:=0+(v+AD p.kind)) (s5 u hu) hs (by omega) (i2 u hu) h2 q hq r hr;have:=s2 u hu;omega
  ·obtain ⟨m,hm2,rfl⟩:=List.getElem_of_mem hx;rw[Iq] at hm2;rw[Mf _ _ _ _ _ _ hm2];have h3:=zc Pf.size (List.getElem_mem hm2);exact ih _ (List.getElem_mem hm2) (s6 _ (List.getElem_mem hm2)) (s3 _ (List.getElem_mem hm2)) (i3 _ (List.getElem_mem hm2)) _ (by split<;>omega) (by split<;>omega)
theorem Ylk{C f b:Int}(hb:0<=b)(p:Pf):p.hx C->∀y,(p.lh f b y).hx (C+b):=by
 induction p using Pf.ind with
 |h p ih=>
  intro h y;obtain⟨h1,h2⟩:=(Pf.A8 C p).1 h;rw[Pf.Ec];by_cases hk:p.kind=1
  ·rw[if_pos hk];have:=h1 hk;exact OV (by split<;>omega)
  ·rw[if_neg hk,Pf.A8];simp only[Pf.Ah,Pf.Ay,Pf.Ad];refine⟨fun h=>absurd h hk,fun _ x hx=> ?_⟩;obtain⟨m,hm,rfl⟩:=List.getElem_of_mem hx;rw[KR] at hm;rw[PV _ _ _ _ _ _ hm];exact ih _ (List.getElem_mem hm) (h2 hk _ (List.getElem_mem hm)) _
theorem Pw(C i:Int):(xo i).lx C:=by simp[xo,Pf.lx,Pf.IQ]
theorem Ylc{C f b:Int}(p:Pf):p.lx C->∀y,(p.lh f b y).lx C:=by
 induction p using Pf.ind with
 |h p ih=>
  intro h y;obtain⟨h1,h2⟩:=(Pf.BC C p).1 h;rw[Pf.Ec];by_cases hk:p.kind=1
  ·rw[if_pos hk];exact Pw _ _
  ·rw[if_neg hk,Pf.BC];simp only[Pf.Ah,Pf.Ay,Pf.Ad];refine⟨h1,fun x hx=> ?_⟩;obtain⟨m,hm,rfl⟩:=List.getElem_of_mem hx;rw[KR] at hm;rw[PV _ _ _ _ _ _ hm];exact ih _ (List.getElem_mem hm) (h2 _ (List.getElem_mem hm)) _
theorem Yk6{C fr n:Int}(p:Pf):p.lx C->∀v,(p.up fr n v).lx C:=by
 induction p using Pf.ind with
 |h p ih=>
  intro h v;obtain⟨h1,h2⟩:=(Pf.BC C p).1 h;rw[Pf.BM,Pf.BC];simp only[Pf.Ah,Pf.Ay,Pf.Ad];refine⟨h1,fun x hx=> ?_⟩;obtain⟨m,hm,rfl⟩:=List.getElem_of_mem hx;rw[uf] at hm;rw[Np _ _ _ _ _ _ hm];exact ih _ (List.getElem_mem hm) (h2 _ (List.getElem_mem hm)) _
structure Ib (C:Int) (p:Pf):Prop where
 ix:p.ix C
 hx:p.hx C
 lx:p.lx C
theorem Ib.mono{C C':Int}{p:Pf}(h:Ib C p)(hc:C<=C'):Ib C' p:=⟨vr h.ix hc,J7 h.hx hc,PJ h.lx hc⟩
theorem Ib.no{C:Int}:Ib C Bc:=by
 constructor<;>simp[Bc,Pf.ix,Pf.ixs,Pf.hx,Pf.hxs,Pf.lx,Pf.IQ]
theorem Ib.args{C:Int}{p:Pf}(hs:p.shape=true)(h:Ib C p):∀x∈p.args,Ib C x:=fun x hx=>by
 refine⟨((Pf.Be C p).1 h.ix).2.2 x hx,((Pf.A8 C p).1 h.hx).2 (fun hk=> ?_) x hx,((Pf.BC C p).1 h.lx).2 x hx⟩;obtain⟨hh,_⟩:=zh hs;obtain⟨nd,n1,_,_,n4,_⟩:=Hz hh;rw[hk] at n1;simp[BO] at n1;rw[<-n1] at n4;rw[List.eq_nil_of_length_eq_zero n4] at hx;cases hx
theorem Ib.arg{C:Int}{p:Pf}(hs:p.shape=true)(h:Ib C p)(i:Nat):Ib C (p.arg i):=by
 unfold Pf.arg;by_cases hi:i<p.args.length
 ·rw[G8 hi];exact h.args hs _ (List.getElem_mem hi)
 ·rw[List.getD,List.getElem?_eq_none (by omega)];exact Ib.no
theorem Ib.terms{C:Int}{p:Pf}(h:Ib C p):∀t∈p.terms,∀q∈t.vars 0,0<=q.1/\q.1<C:=((Pf.Be C p).1 h.ix).1
theorem Ib.put{C:Int}{p:Pf}{t:Tm}(h:Ib C p)(h2:∀q∈t.vars 0,0<=q.1/\q.1<C)(he:x7 p 0 t=0):Ib (C+250000) (Co p 0 t):=by
 obtain⟨e1,_,e2,_⟩:=XZ he;obtain⟨g1,g2,g3⟩:=(Pf.Ae p).1 e1;have e:Co p 0 t=p.pt 0 t 0:=by unfold Co;rw[if_pos he]
 rw[e];exact⟨Yl4 ((Tm.Ae t).1 e2).1 h2 p g1 g2 h.ix 0 (by omega) (by omega),J7 (Yb _ _ _ _ h.hx 0) (by omega),PJ (Uy _ _ _ _ h.lx 0) (by omega)⟩
theorem Xr{r:Pf}{C:Int}(he:r.err=0)(hr:Ib C r)(hC:C<=549755813888){v h:Int}(hv:0<=v/\v<=200000)(hh2:0<=h/\h<=200000):
 Pz (C+v) r.size (r.Ds v h)/\Ib (C+200000) (r.Ds v h):=by
 obtain⟨hs,hm,hz⟩:=(Pf.Ae r).1 he;have h1:=Na (fr:=0) (n:=v) (C:=C) hv.1 hs hm hr.ix 0;have hf:=KA _ h1.1;have h2:=h1.2.2.1;have hx:=Oo C 0 v r hr.hx 0;unfold Pf.Ds;rw[MF (by omega) hs hm (vr hr.ix hC) 0];rw[PD (by omega) (Gq _ h1.1) (J7 hx hC) 0 (by omega)];have:=Qb (f:=0) (b:=h) hh2.1 h1.1 h1.2.1 h1.2.2.2 0;rw[h2] at this;exact⟨this,vr this.2.2.2 (by omega),J7 (Ylk hh2.1 _ hx 0) (by omega),PJ (Ylc _ (Yk6 _ hr.lx 0) 0) (by omega)⟩
theorem Ylu{r:Pf}{C:Int}(hR:∀(v h:Int),0<=v->v<=200000->0<=h->h<=200000->Ib (C+200000) (r.Ds v h))(p:Pf):
 p.shape=true->p.hx C->p.lx C->∀v y:Int,0<=v->0<=y->v+2*p.size<=200000->y+2*p.size<=200000->(Pf.ph 0 r v y p).hx (C+200000)/\(Pf.ph 0 r v y p).lx (C+200000):=by
 induction p using Pf.ind with
 |h p ih=>
  intro hs h h' v y hv hy hvz hyz;obtain⟨hh,_,_,s6⟩:=zh hs;obtain⟨h1,h2⟩:=(Pf.A8 C p).1 h;obtain⟨j1,j2⟩:=(Pf.BC C p).1 h';have hz:=p.size_eq;have b1:0<=As p.kind/\As p.kind<=2:=by unfold As;split<;>(try split)<;>omega
  have b2:0<=At p.kind/\At p.kind<=1:=by unfold At;split<;>omega
  rw[Pf.E4];by_cases hk:p.kind=1
  ·rw[if_pos hk];have:=h1 hk;by_cases h0:p.index-y=0
   ·rw[if_pos h0];have:=hR v (0+y) hv (by omega) (by omega) (by omega);exact⟨this.hx,this.lx⟩
   ·rw[if_neg h0];split
    ·exact ⟨OV (by omega),Pw _ _⟩
    ·exact ⟨OV (by omega),Pw _ _⟩
  ·rw[if_neg hk,Pf.A8,Pf.BC];simp only[Pf.Ah,Pf.Ay,Pf.Ad];have key:∀x∈Pf.DD 0 r v y (As p.kind) (At p.kind) p.args,x.hx (C+200000)/\x.lx (C+200000):=fun x hx=>by
    obtain⟨m,hm,rfl⟩:=List.getElem_of_mem hx;rw[J9] at hm;rw[RD _ _ _ _ _ _ _ _ hm];have h3:=zc Pf.size (List.getElem_mem hm);exact ih _ (List.getElem_mem hm) (s6 _ (List.getElem_mem hm)) (h2 hk _ (List.getElem_mem hm)) (j2 _ (List.getElem_mem hm)) _ _ (by split<;>omega) (by split<;>omega) (by split<;>omega) (by split<;>omega)
   exact⟨⟨fun h=>absurd h hk,fun _ x hx=>(key x hx).1⟩,⟨fun hk2=>by have:=j1 hk2;omega,fun x hx=>(key x hx).2⟩⟩
theorem Ib.Lp{C:Int}{p q:Pf}(h:Ib C p)(h2:Ib C q)(h0:0<=C)(hC:C<=549755813888)(he:va p 0 q=0):Ib (C+200000) (vq p 0 q):=by
 obtain⟨e1,_,e3,_⟩:=WJ he;obtain⟨g1,g2,g3⟩:=(Pf.Ae p).1 e1;have e:vq p 0 q=Pf.ph 0 q 0 0 p:=by unfold vq;rw[if_pos he]
 rw[e];have hp:=QI (p:=p) (r:=q) (C:=C) (fun v h q1 q2 q3 q4=>by
  obtain⟨w1,w2⟩:=Xr e3 h2 hC ⟨q1,q2⟩ ⟨q3,q4⟩;exact⟨w1.1,w1.2.1,w1.2.2.1,vr w1.2.2.2 (by omega)⟩) h0 g1 g2 h.ix 0 0 (by omega) (by omega) (by omega) (by omega)
 have hl:=Ylu (r:=q) (C:=C) (fun v h q1 q2 q3 q4=>(Xr e3 h2 hC ⟨q1,q2⟩ ⟨q3,q4⟩).2) p g1 h.hx h.lx 0 0 (by omega) (by omega) (by omega) (by omega);exact⟨hp.2.2.2,hl.1,hl.2⟩
theorem Ph{C:Int}{q:Pf}{t:Tm}{p:Pf}(h:Ib C q)(h2:∀r∈t.vars 0,0<=r.1/\r.1<C)(hp:Ib C p)(h0:0<=C)(hC:C<=500000000000)(he:(D4 q t p).2=0):Ib (C+450000) (D4 q t p).1:=by
 unfold D4 at he ⊢;by_cases h1:x7 q 0 t≠0
 ·rw[if_pos h1] at he;exact absurd he h1
 rw[if_neg h1] at he ⊢;have:=(h.put h2 (Decidable.not_not.1 h1)).Lp (hp.mono (by omega)) (by omega) (by omega) he;exact this.mono (by omega)
theorem XI{C:Int}{p:Pf}{t:Tm}(hk:p.kind≠1)(h:Ib C p)(h2:∀r∈t.vars 0,0<=r.1/\r.1<C):Ib C (FA p t):=by
 obtain⟨i1,i2,i3⟩:=(Pf.Be _ p).1 h.ix;obtain⟨j1,j2⟩:=(Pf.A8 _ p).1 h.hx;obtain⟨k1,k2⟩:=(Pf.BC _ p).1 h.lx;unfold FA;refine⟨(Pf.Be _ _).2 ⟨fun u hu=> ?_,i2,i3⟩,(Pf.A8 _ _).2 ⟨j1,j2⟩,(Pf.BC _ _).2 ⟨k1,k2⟩⟩;simp only[Pf.Ai,List.mem_singleton] at hu;subst hu;exact h2
theorem Ye{C:Int}{p:Pf}(h:Ib C p):∀q∈p.Ei.vars 0,0<=q.1/\q.1<C:=by
 unfold Pf.Ei;by_cases hi:0<p.terms.length
 ·rw[G8 hi];exact h.terms _ (List.getElem_mem hi)
 ·rw[List.getD,List.getElem?_eq_none (by omega)];intro q hq;simp[A0,Tm.vars,Tm.BX] at hq
theorem LX{C:Int}{t:Tm}(h:∀q∈t.vars 0,0<=q.1/\q.1<C)(i:Nat):∀q∈(t.args.getD i A0).vars 0,0<=q.1/\q.1<C:=by
 by_cases hi:i<t.args.length
 ·rw[G8 hi];intro q hq;obtain⟨q',h1,h2⟩:=OX (b':=up t.kind 0) q hq;rw[<-h2];exact h q' (by rw[Tm.AQ];exact List.mem_append_right _ (List.mem_flatMap.2 ⟨_,List.getElem_mem hi,h1⟩))
 ·rw[List.getD,List.getElem?_eq_none (by omega)];intro q hq;simp[A0,Tm.vars,Tm.BX] at hq
theorem Ybu{C:Int}{t:Tm}(h0:0<=C)(h:∀q∈t.vars 0,0<=q.1/\q.1<C):∀q∈(E1 t).vars 0,0<=q.1/\q.1<C+1:=by
 unfold E1;split
 ·next he=>
  have hs:t.err=0:=Decidable.byContradiction fun hc=>by unfold xm at he;rw[if_pos hc] at he;exact hc he
  have hsh:=((Tm.Ae t).1 hs).1;intro q hq;exact⟨Tm.AJ _ (J3 0 hsh (by omega)) 0 q hq,by have:=OE (C:=C-1) hsh (by omega) (fun r hr=>by have:=h r hr;omega) q hq;omega⟩
 ·intro q hq;simp[A0,Tm.vars,Tm.BX] at hq
theorem Zuj{C:Int}{p:Pf}(hs:p.shape=true)(h:Ib C p)(h0:0<=C)(hC:C<=100000000000)(he:(z7 p).2=0):Ib (C+1000000) (z7 p).1:=by
 have a0:=h.arg hs 0;have a1:=h.arg hs 1;have s0:(p.arg 0).shape=true\/p.arg 0=Bc:=by
  unfold Pf.arg;by_cases hi:0<p.args.length
  ·rw[G8 hi];exact .inl ((zh hs).2.2.2 _ (List.getElem_mem hi))
  ·rw[List.getD,List.getElem?_eq_none (by omega)];exact .inr rfl
 have aa:∀i,Ib C ((p.arg 0).arg i):=fun i=>by
  rcases s0 with h|h
  ·exact a0.arg h i
  ·rw[h];have:Bc.arg i=Bc:=by unfold Pf.arg;simp[Bc,Pf.args]
   rw[this];exact Ib.no
 have ht:=Ye h;have ht0:=Ye a0;have h16:∀k:Int,(yp p).1=k->p.kind=k:=fun k e=>by rw[<-SI];exact e
 unfold z7 at he ⊢;by_cases c1:yp p=(4,3)
 ·rw[if_pos c1];exact(aa 0).mono (by omega)
 rw[if_neg c1] at he ⊢;by_cases c2:yp p=(5,3)
 ·rw[if_pos c2];exact(aa 1).mono (by omega)
 rw[if_neg c2] at he ⊢;by_cases c3:yp p=(7,6)
 ·rw[if_pos c3] at he ⊢;exact((aa 0).Lp a1 h0 (by omega) he).mono (by omega)
 rw[if_neg c3] at he ⊢;by_cases c4:yp p=(9,8)\/yp p=(13,12)
 ·rw[if_pos c4] at he ⊢;exact((aa 0).put ht he).mono (by omega)
 rw[if_neg c4] at he ⊢;by_cases c5:yp p=(11,10)\/yp p=(15,14)
 ·rw[if_pos c5] at he ⊢;exact(Ph a1 ht0 (aa 0) h0 (by omega) he).mono (by omega)
 rw[if_neg c5] at he ⊢;by_cases c6:yp p=(16,5)
 ·rw[if_pos c6] at he ⊢;have hk:=h16 16 (by rw[c6]);exact(Ph a1 (LX ht 0) (XI (by omega) h (LX ht 0)) h0 (by omega) he).mono (by omega)
 rw[if_neg c6] at he ⊢;by_cases c7:yp p=(17,8)
 ·rw[if_pos c7] at he ⊢;have hk:=h16 17 (by rw[c7]);unfold I4 at he ⊢;by_cases d1:xm (p.Ei.args.getD 1 A0) 0 1≠0
  ·rw[if_pos d1] at he;exact absurd he d1
  rw[if_neg d1] at he ⊢;by_cases d2:x7 (p.arg 1) 0 (E1 (p.Ei.args.getD 1 A0))≠0
  ·rw[if_pos d2] at he;exact absurd he d2
  rw[if_neg d2] at he ⊢;have w:=Ybu h0 (LX ht 1);have e:=(a1.mono (C':=C+1) (by omega)).put w (Decidable.not_not.1 d2);exact(Ph e (fun q hq=>by have:=LX ht 0 q hq;omega) ((XI (by omega) h (LX ht 1)).mono (by omega)) (by omega) (by omega) he).mono (by omega)
 rw[if_neg c7];exact a0.mono (by omega)
theorem Ykx{C:Int}(h0:0<=C)(hC:C<=100000000000)(p:Pf):p.shape=true->Ib C p->p.nx.2.2=0->Ib (C+1000000) p.nx.1:=by
 induction p using Pf.ind with
 |h p ih=>
  intro hs h he;rw[Pf.CX] at he ⊢;by_cases hr:vm p=true
  ·rw[if_pos hr] at he ⊢;exact Zuj hs h h0 hC he
  rw[if_neg hr] at he ⊢;simp only at he ⊢;have key:∀l:List Pf,(∀x∈l,x∈p.args)->(Pf.Di l).2.2=0->∀y∈(Pf.Di l).1,Ib (C+1000000) y:=by
   intro l;induction l with
   |nil=>intro _ _ y hy;simp[Pf.Di] at hy
   |cons x l ihl=>
    intro hx he y hy;have h1:=h.args hs;have hxm:=hx x (by simp);simp only[Pf.Di] at he hy;by_cases hc:x.nx.2.1=true\/x.nx.2.2≠0
    ·rw[if_pos hc] at he hy;simp only at he hy;rcases List.mem_cons.1 hy with rfl|hy
     ·exact ih x hxm ((zh hs).2.2.2 x hxm) (h1 x hxm) he
     ·exact (h1 y (hx y (by simp[hy]))).mono (by omega)
    ·rw[if_neg hc] at he hy;simp only at he hy;rcases List.mem_cons.1 hy with rfl|hy
     ·exact (h1 y hxm).mono (by omega)
     ·exact ihl (fun z hz=>hx z (by simp[hz])) he y hy
  have k:=key p.args (fun _ h=>h) he;have hm:=h.mono (C':=C+1000000) (by omega);obtain⟨i1,i2,i3⟩:=(Pf.Be _ p).1 hm.ix;obtain⟨j1,j2⟩:=(Pf.A8 _ p).1 hm.hx;obtain⟨k1,k2⟩:=(Pf.BC _ p).1 hm.lx;exact⟨(Pf.Be _ _).2 ⟨i1,i2,fun x hx=>(k x hx).ix⟩,(Pf.A8 _ _).2 ⟨j1,fun _ x hx=>(k x hx).hx⟩,(Pf.BC _ _).2 ⟨k1,fun x hx=>(k x hx).lx⟩⟩
theorem Yej{C:Int}{p:Pf}(h0:0<=C)(hC:C<=100000000000)(he:p.err=0)(h:Ib C p)(hs:(yh p).2.2=0):Ib (C+1000000) (yh p).1:=by
 obtain⟨e1,e2,e3,e4⟩:=u6 hs;rw[e2];exact Ykx h0 hC p ((Pf.Ae p).1 he).1 h e1
theorem U7:∀(k:Nat) (p:Pf) (n C:Int),0<=C->C+k*1000000<=100000000000->p.err=0->Ib C p->(y4 k p n).2.2=0->Ib (C+k*1000000) (y4 k p n).1
 |0,p,n,C,h0,hC,he,h,hs=>by
  unfold y4 at hs ⊢;split
  ·exact h.mono (by omega)
  ·exact Ib.no
 |k+1,p,n,C,h0,hC,he,h,hs=>by
  rw[Ll] at hs ⊢;by_cases h1:(yh p).2.2≠0
  ·rw[if_pos h1] at hs;exact absurd hs h1
  rw[if_neg h1] at hs ⊢;by_cases h2:(yh p).2.1=false
  ·rw[if_pos h2];exact h.mono (by omega)
  rw[if_neg h2] at hs ⊢;have h1':=Decidable.not_not.1 h1;obtain⟨e1,e2,e3,e4⟩:=u6 h1';have:=U7 k (yh p).1 (n+1) (C+1000000) (by omega) (by omega) (by rw[e2];exact e4) (Yej h0 (by omega) he h h1') hs;exact this.mono (by omega)
theorem Zz9(p:Pf):p.ix 500000000->∀v,(p.Dg (fun(_:Int) (t:Tm)=>t.near) (fun(_:Int) (f:Fm)=>f.near) v).all id=true:=by
 induction p using Pf.ind with
 |h p ih=>
  intro hix v;obtain⟨i1,i2,i3⟩:=(Pf.Be _ p).1 hix;rw[Pf.Ca,List.all_append,List.all_append,Bool.and_eq_true,Bool.and_eq_true];refine⟨⟨List.all_eq_true.2 fun b hb=> ?_,List.all_eq_true.2 fun b hb=> ?_⟩,List.all_eq_true.2 fun b hb=> ?_⟩
  ·obtain ⟨t,ht,rfl⟩:=List.mem_map.1 hb;exact List.all_eq_true.2 fun q hq=>by have:=i1 t ht q hq;simp;omega
  ·obtain ⟨f,hf,rfl⟩:=List.mem_map.1 hb;exact List.all_eq_true.2 fun q hq=>List.all_eq_true.2 fun r hr=>by have:=i2 f hf q hq r hr;simp;omega
  ·obtain ⟨l,hl,hb⟩:=List.mem_flatten.1 hb;obtain⟨m,hm,rfl⟩:=List.getElem_of_mem hl;rw[vy] at hm;rw[um _ _ _ _ _ _ hm] at hb;exact List.all_eq_true.1 (ih _ (List.getElem_mem hm) (i3 _ (List.getElem_mem hm)) _) b hb
theorem Wo(p:Pf):p.shape=true->Ib 500000000 p->∀y,(p.B3 C5 y).all id=true/\(p.B3 Dw y).all id=true:=by
 induction p using Pf.ind with
 |h p ih=>
  intro hs h y;obtain⟨i1,_⟩:=(Pf.A8 _ p).1 h.hx;obtain⟨j1,_⟩:=(Pf.BC _ p).1 h.lx;have ha:=h.args hs;have hsa:=(zh hs).2.2.2;rw[Pf.Bu,Pf.Bu,List.all_append,List.all_append,Bool.and_eq_true,Bool.and_eq_true];refine⟨⟨List.all_eq_true.2 fun b hb=> ?_,List.all_eq_true.2 fun b hb=> ?_⟩,List.all_eq_true.2 fun b hb=> ?_,List.all_eq_true.2 fun b hb=> ?_⟩
  ·unfold C5 at hb;by_cases hk:p.kind=1
   ·rw[if_pos hk] at hb;simp only[List.mem_singleton] at hb;subst hb;have:=i1 hk;simp;omega
   ·rw[if_neg hk] at hb;cases hb
  ·obtain ⟨l,hl,hb⟩:=List.mem_flatten.1 hb;obtain⟨m,hm,rfl⟩:=List.getElem_of_mem hl;rw[vu] at hm;rw[uo _ _ _ _ _ hm] at hb;exact List.all_eq_true.1 (ih _ (List.getElem_mem hm) (hsa _ (List.getElem_mem hm)) (ha _ (List.getElem_mem hm)) _).1 b hb
  ·unfold Dw at hb;by_cases hk:p.kind=1\/p.kind=2
   ·rw[if_pos hk] at hb;simp only[List.mem_singleton] at hb;subst hb;rcases hk with hk|hk
    ·have:=i1 hk;simp;omega
    ·have:=j1 hk;simp;omega
   ·rw[if_neg hk] at hb;cases hb
  ·obtain ⟨l,hl,hb⟩:=List.mem_flatten.1 hb;obtain⟨m,hm,rfl⟩:=List.getElem_of_mem hl;rw[vu] at hm;rw[uo _ _ _ _ _ hm] at hb;exact List.all_eq_true.1 (ih _ (List.getElem_mem hm) (hsa _ (List.getElem_mem hm)) (ha _ (List.getElem_mem hm)) _).2 b hb
theorem Ib.near{p:Pf}(hs:p.shape=true)(h:Ib 500000000 p):p.Ce=true:=by
 unfold Pf.Ce;rw[show p.AN=true from Zz9 p h.ix 0,show p.AZ=true from(Wo p hs h 0).1,List.all_append,(Wo p hs h 0).2]
 rfl
theorem Zzl{n:Nat}{p:Pf}(hp:Made n p)(h:(y7 p 30).2.2=0){k:Int}(hk:0<=k/\k<=1000):
 0<=(y7 p 30).2.1/\(y7 p 30).2.1<=30/\y7 p ((y7 p 30).2.1+k)=y7 p 30/\(y7 p 30).1.err=0/\Ir (y7 p 30).1=((y7 p 30).1,false,0)/\vm (y7 p 30).1=false:=by
 rcases vn hp (s:=30) (by omega) with⟨_,e⟩|⟨p0,e⟩
 ·rw[e] at h;cases h
 rw[show Int.toNat 30=30 from rfl] at e;rw[e] at h ⊢;have hw:=KF 30 p 0 (y4 30 p 0).1 (y4 30 p 0).2.1 p0 (Prod.ext rfl (Prod.ext rfl h));obtain⟨w1,w2,w3,w4,w5⟩:=hw;have w4':(y4 30 p 0).2.1<=30:=by simpa using w4
 have hib:=U7 30 p 0 10000 (by omega) (by omega) p0 ⟨hp.ix,hp.hx,hp.lx⟩ h;have hn:=(hib.mono (C':=500000000) (by omega)).near ((Pf.Ae _).1 w2).1;refine⟨w3,w4',?_,w2,?_,Zn0 w1⟩
 ·rcases vn hp (s:=(y4 30 p 0).2.1+k) (by omega) with⟨e0,_⟩|⟨_,e2⟩
  ·omega
  ·rw[e2,w5 _ (by omega)];exact Prod.ext rfl (Prod.ext rfl h.symm)
 ·unfold Ir;rw[if_neg (by simp[w2]),if_neg (by simp[hn]),PL w1 w2]
  rfl
end Go.Ab
