/- A part of this seat's proofs. No conditions. -/
import Derived.Test.YtmhcohcihajegaaGreatDoorCS27
namespace Go.Ab
open Go Go.Proofs
set_option maxRecDepth 100000
set_option maxHeartbeats 4000000
set_option linter.all false
def Ns(lems:List Fm)(tys:List Ty)(hyps:List Fm)(d:Dk):Prop:=∃(p:Pf) (d':Dk),Made 400000000 p/\d'.ok/\
 AC E 11 [.ptr 0 0,.s .fm lems,.agg [.s .ty tys,.s .fm hyps]] ⟨1,[(0,.var d.cells)]⟩ (.agg p.view) ⟨1,[(0,.var d'.cells)]⟩
theorem Ysp(lems:List Fm)(tys:List Ty)(hyps:List Fm)(hc:(Ck.mk lems tys hyps).ok)(hs:Aj tys)(d d1 d2:Dk)(ok2:d2.ok){p:Pf}{x:Fm}{u:List Int}(mp:Made (DI 2) p)
 (h1:AC E 13 [.ptr 0 0,.s .fm lems,.agg [.s .ty tys,.s .fm hyps],.i 2] ⟨1,[(0,.var d.cells)]⟩ (.AP [.agg p.view,.agg (x.view++[.s .int u])]) ⟨1,[(0,.var d1.cells)]⟩)
 (h2:AC E 12 [.ptr 0 0,.i 5] ⟨1,[(0,.var d1.cells)]⟩ (.i 0) ⟨1,[(0,.var d2.cells)]⟩):Ns lems tys hyps d:=by
 obtain⟨r,y,w,d3,mr,_,_,ok3,h3⟩:=Sc 2 kn lems tys hyps hc hs d2 ok2;obtain⟨i,d4,ok4,hi,h4⟩:=GC d3 2 ok3 kn;have b2:DI 2=36000000:=kq
 have fp:=mp.full;have fr:=mr.full;have m1:=mp.two (k:=3) kn mr;have q1:=Fi 3 [p,r] ko (by intro x hx;simp only[fW,gm,or_false] at hx;rcases hx with rfl|rfl<;>omega);have q2:=Fi (4+i) [.mk 3 0 (.mk 0 []) [] [] [p,r]] ko (by intro x hx;simp only[fW,gm,or_false] at hx;subst hx;have:=m1.full;omega);refine⟨_,d4,(m1.one (k:=4+i) kn).up kn,ok4,?_⟩;refine M.F Tryz.func11 ?_;refine M.v6 @h1 @h2 @h3 @h4 @q1 @q2 ?_
 (exact M.n2 AJ (h8:=kG))
theorem Ytk(lems:List Fm)(tys:List Ty)(hyps:List Fm)(hc:(Ck.mk lems tys hyps).ok)(hs:Aj tys)(d d1 d2:Dk)(ok2:d2.ok){p:Pf}{x:Fm}{u:List Int}(mp:Made (DI 2) p)
 (h1:AC E 13 [.ptr 0 0,.s .fm lems,.agg [.s .ty tys,.s .fm hyps],.i 2] ⟨1,[(0,.var d.cells)]⟩ (.AP [.agg p.view,.agg (x.view++[.s .int u])]) ⟨1,[(0,.var d1.cells)]⟩)
 (h2:AC E 12 [.ptr 0 0,.i 5] ⟨1,[(0,.var d1.cells)]⟩ (.i 3) ⟨1,[(0,.var d2.cells)]⟩)
 (mz:∀t:Tm,t.err=0->t.inf tys=(Ac,0)->Made 2000000 (Mg t)):Ns lems tys hyps d:=by
 obtain⟨i,d4,ok4,hi,h4⟩:=GC d2 4 ok2 kn;have no:=Rj tys (i:=i) kn;have fN:=ye no.err;have h5:=JR i;have h6:=bS (vu i) kn;refine⟨_,d4,(mz _ no.err no.inf).up kn,ok4,?_⟩;generalize Mg (vu i)=Z at*;generalize vu i=N at*;refine M.F Tryz.func11 ?_;refine M.v5 @h1 @h2 @h4 @h5 @h6 ?_
 (exact M.n2 AJ (h8:=kG))
theorem Ys6(lems:List Fm)(tys:List Ty)(hyps:List Fm)(hc:(Ck.mk lems tys hyps).ok)(hh:hyps.length<=10)(hs:Aj tys)(d d1 d2:Dk)(ok2:d2.ok){p:Pf}{x:Fm}{u:List Int}(mp:Made (DI 2) p)(ex:x.err=0)(ox:x.A9 tys)
 (h1:AC E 13 [.ptr 0 0,.s .fm lems,.agg [.s .ty tys,.s .fm hyps],.i 2] ⟨1,[(0,.var d.cells)]⟩ (.AP [.agg p.view,.agg (x.view++[.s .int u])]) ⟨1,[(0,.var d1.cells)]⟩)
 (h2:AC E 12 [.ptr 0 0,.i 5] ⟨1,[(0,.var d1.cells)]⟩ (.i 1) ⟨1,[(0,.var d2.cells)]⟩):Ns lems tys hyps d:=by
 have hc2:(Ck.mk lems tys (hyps++[x])).ok:=⟨hc.ctx,kC,hc.nl,fun f hf=>by
  rcases fV.1 hf with h|h
  .exact hc.hyps f h
  .simp only[gp] at h;subst h;exact⟨ex,ox⟩,hc.lems⟩
 obtain⟨r,y,w,d3,mr,_,_,ok3,h3⟩:=Sc 2 kn lems tys (hyps++[x]) hc2 hs d2 ok2;have b2:DI 2=36000000:=kq
 have fp:=mp.full;have fr:=mr.full;have fx:=yh ex;have xi:=EL.of ex ox nS;have m1:=Made.imp xi mr;have q1:=UR x r kn kn;have q2:=Fi 7 [.mk 6 0 (.mk 0 []) [] [x] [r],p] ko (by intro z hz;simp only[fW,gm,or_false] at hz;have:=m1.full;rcases hz with rfl|rfl<;>omega);refine⟨_,d3,(m1.two (k:=7) kn mp).up kn,ok3,?_⟩;refine M.F Tryz.func11 ?_;refine M.v5 @h1 @h2 @h3 @q1 @q2 ?_
 (exact M.n2 AJ (h8:=kG))
theorem Yt2(lems:List Fm)(tys:List Ty)(hyps:List Fm)(hc:(Ck.mk lems tys hyps).ok)(hs:Aj tys)(d d1 d2:Dk)(ok2:d2.ok){p:Pf}{x:Fm}{u:List Int}(mp:Made (DI 2) p)(ex:x.err=0)(ox:x.A9 tys)
 (h1:AC E 13 [.ptr 0 0,.s .fm lems,.agg [.s .ty tys,.s .fm hyps],.i 2] ⟨1,[(0,.var d.cells)]⟩ (.AP [.agg p.view,.agg (x.view++[.s .int u])]) ⟨1,[(0,.var d1.cells)]⟩)
 (h2:AC E 12 [.ptr 0 0,.i 5] ⟨1,[(0,.var d1.cells)]⟩ (.i 2) ⟨1,[(0,.var d2.cells)]⟩):Ns lems tys hyps d:=by
 obtain⟨i,d4,ok4,hi,h4⟩:=GC d2 4 ok2 kn;have hl:tys.length<=16:=by have:=hc.len;simpa using this
 have no:=Rj tys (i:=i) kn;have ti:=DA.of no.err no.inf kn;have fN:=ye no.err;have h5:=JR i;have fx:=yh ex;have hU:=Gx ox ((Fm.Aa _).1 ex).1 mo kn 0 1 kn kn;have fl:=Lw x 0 1;have hf:=RY ex ox Ac kn;have hy:=Lz 0;have mh:Made 10 (vd 0):=Made.hyp kn;have fh:=mh.full;have fp:=mp.full;have b2:DI 2=36000000:=kq
 have h9:=Po 16 (x.As 0 1) (vu i) p (vd 0) kn kn kn kn;have m9:=Made.ind (k:=16) (Or.inl rfl) hf ti mp mh;have m8:=m9.up (show DI 2+10+600002<=400000000 by rw[b2];decide);refine⟨_,d4,m8,ok4,?_⟩;clear m8 m9 ti no hf mh;generalize x.As 0 1=y at*;generalize vu i=N at*;refine M.F Tryz.func11 ?_;(repeat' first|refine M.w6 @h1 @h2 @h4 @h5 @hU @hy ?_|refine M.c2 (h9) ?_|refine M.bl ?_|fail)
 (exact M.n2 AJ (h8:=kG))
def UI(i:Int):Tm:= .mk 8 0 (.mk 0 []) [vu i,.mk 7 0 (.mk 0 []) []]
theorem Yow{i:Int}(h:0<=i/\i<3):DA (UI i):=by
 obtain⟨m,rfl⟩:∃m:Nat,i=m:=⟨i.toNat,kn⟩;have h4:m=0\/m=1\/m=2:=kn
 rcases h4 with rfl|rfl|rfl
 .exact JT _ kE kE kE
 .exact JT _ kE kE kE
 .exact JT _ kE kE kE
theorem Ytj(lems:List Fm)(tys:List Ty)(hyps:List Fm)(hc:(Ck.mk lems tys hyps).ok)(hs:Aj tys)(d d1 d2:Dk)(ok2:d2.ok){p:Pf}{x:Fm}{u:List Int}(mp:Made (DI 2) p)(ex:x.err=0)(ox:x.A9 tys)
 (h1:AC E 13 [.ptr 0 0,.s .fm lems,.agg [.s .ty tys,.s .fm hyps],.i 2] ⟨1,[(0,.var d.cells)]⟩ (.AP [.agg p.view,.agg (x.view++[.s .int u])]) ⟨1,[(0,.var d1.cells)]⟩)
 (h2:AC E 12 [.ptr 0 0,.i 5] ⟨1,[(0,.var d1.cells)]⟩ (.i 4) ⟨1,[(0,.var d2.cells)]⟩):Ns lems tys hyps d:=by
 obtain⟨i,d4,ok4,hi,h4⟩:=GC d2 3 ok2 kn;have hl:tys.length<=16:=by have:=hc.len;simpa using this
 have no:=Rj tys (i:=i) kn;have ti:=Yow hi;have fN:=ye no.err;have h5:=JR i;have n1:=Dj 7 [] ko;have n2:=Dj 8 [vu i,.mk 7 0 (.mk 0 []) []] (by simp only[fJ,fU,fT,gu,show(Tm.mk 7 0 (.mk 0 []) []).full=2 from kq];omega);have fx:=yh ex;have hU:=Gx ox ((Fm.Aa _).1 ex).1 mo kn 0 1 kn kn;have fl:=Lw x 0 1;have hf:=RY ex ox Al kn;have hy:=Lz 0;have mh:Made 10 (vd 0):=Made.hyp kn;have fh:=mh.full;have fp:=mp.full;have b2:DI 2=36000000:=kq
 have ft:=ti.2.2;have h9:=Po 17 (x.As 0 1) (UI i) p (vd 0) kn kn kn kn;have m9:=Made.ind (k:=17) (Or.inr rfl) hf ti mp mh;have m8:=m9.up (show DI 2+10+600002<=400000000 by rw[b2];decide);refine⟨_,d4,m8,ok4,?_⟩;clear m8 m9 ti no hf mh ft;unfold UI at h9 ⊢;generalize x.As 0 1=y at*;generalize vu i=N at*;refine M.F Tryz.func11 ?_;(repeat' first|refine M.w6 @h1 @h2 @h4 @h5 @n1 @n2 ?_|refine M.c2 (hU) ?_|refine M.c2 (hy) ?_|refine M.c2 (h9) ?_|refine M.bl ?_|fail)
 (exact M.n2 AJ (h8:=kG))
theorem Zx4(t:Tm)(ti:DA t):Made 2000000 (Mg t):=by
 exact qn
theorem Yhz(lems:List Fm)(tys:List Ty)(hyps:List Fm)(hc:(Ck.mk lems tys hyps).ok)(hh:hyps.length<=10)(hs:Aj tys)(d:Dk)(hd:d.ok):Ns lems tys hyps d:=by
 obtain⟨p,x,u,d1,mp,ex,ox,ok1,h1⟩:=Sc 2 kn lems tys hyps hc hs d hd;obtain⟨i,d2,ok2,hi,h2⟩:=GC d1 5 ok1 kn;have hl:tys.length<=20:=nS
 rcases(show i=0\/i=1\/i=2\/i=3\/i=4 by omega) with rfl|rfl|rfl|rfl|rfl
 .exact Ysp lems tys hyps hc hs d d1 d2 ok2 mp h1 h2
 .exact Ys6 lems tys hyps hc hh hs d d1 d2 ok2 mp ex ox h1 h2
 .exact Yt2 lems tys hyps hc hs d d1 d2 ok2 mp ex ox h1 h2
 .exact Ytk lems tys hyps hc hs d d1 d2 ok2 mp h1 h2 fun t h h'=>Zx4 t (DA.of h h' hl)
 .exact Ytj lems tys hyps hc hs d d1 d2 ok2 mp ex ox h1 h2
end Go.Ab
