/- A part of this seat's proofs. No conditions. -/
import Derived.Test.YtmhcohcihajegaaGreatDoorCDT2
import Derived.Test.YtmhcohcihajegaaGreatDoorCS28
import Derived.Test.YtmhcohcihajegaaGreatDoorCS30
namespace Go.Ab
open Go Go.Proofs
set_option maxRecDepth 100000
set_option maxHeartbeats 4000000
set_option linter.all false
theorem Z4(a b:List Int)(ha:a.length<1099511627776)(hb:b.length<1099511627776)(h:∀x∈a,x∈b):PC E 18 [.s .int a,.s .int b] (.bool true):=by
 refine M.F Tryz.func18 ?_;refine M.w0 ?_;refine M.rt a.length (fun m=>([(1,.s .int b),(10,.s .int a),(11,.i a.length),(12,.i m)],⟨0,[]⟩))
  (M.W []) ?_ ?_
 .intro m hm _;have hx:=h a[m] (fA hm);refine M.w0 ?_;refine AW.range b.length (fun k=>True) (fun k=>([(1,.s .int b),(6,.i a[m]),(7,.bool (decide (a[m]∈b.take k))),(10,.s .int a),(11,.i a.length),(12,.i m),(16,.s .int b),(17,.i b.length),(18,.i k)],⟨0,[]⟩))
   kn (fun k=>rfl) (fun k=>rfl) rfl trivial ?_ ?_ ?_
  .exact (M.W [])
  .intro k hk _;have e1:b.take (k+1)=b.take k++[b[k]]:=by rw[List.take_succ,fG hk];rfl
   have em:a[m]∈b.take (k+1)↔a[m]∈b.take k\/a[m]=b[k]:=by rw[e1,fV,gp]
   (repeat' first|refine M.w0 ?_|refine M.gs ?_ ?_<;>intro h|fail)
   .have e2:decide (a[m]∈b.take (k+1))=true:=decide_eq_true (em.2 (.inl (of_decide_eq_true h)));exact⟨rfl,trivial,(M.W [] (hf:=(by(repeat'(first|exact trivial|refine And.intro ?_ ?_|refine⟨_,U,_,U,?_⟩|exact Ap.refl _|exact Ap.of_eq (by simp[Ao.AH,e2])));done)))⟩
   .have e2:decide (a[m]∈b.take (k+1))=decide (a[m]=b[k]):=decide_eq_decide.2 ⟨fun hh=>(em.1 hh).resolve_left (of_decide_eq_false h),fun hh=>em.2 (.inr hh)⟩;have e3:(a[m]==b[k])=decide (a[m]=b[k]):=by by_cases hh:a[m]=b[k]<;>simp[hh]
    exact⟨rfl,trivial,(M.W [] (hf:=(by(repeat'(first|exact trivial|refine And.intro ?_ ?_|refine⟨_,U,_,U,?_⟩|exact Ap.refl _|exact Ap.of_eq (by simp[Ao.AH,e2,e3])));done)))⟩
  .intro _;simp only[fH,hx,decide_true];refine M.w0 ?_;all_goals first
    |(exfalso;simp at h;done)
    |exact⟨rfl,trivial,(M.W [])⟩
    |trace_state
 intro _;refine M.w0 ?_
 rfl
def EJ(p:Pf):Nat->Pf
 |0=>p
 |n+1=>(xv (EJ p n)).1
abbrev NY(lems:List Fm)(tys:List Ty)(hyps:List Fm)(p:Pf):List V:=(yb lems tys hyps p).1.view++[.s .int (yb lems tys hyps p).2.1]
def L6(lems:List Fm)(tys:List Ty)(hyps:List Fm)(p:Pf)(m:Nat):Prop:=(EJ p m).err=0/\Ib (10000+m*1000000) (EJ p m)/\(yb lems tys hyps (EJ p m)).2.2=0
theorem aT{lems:List Fm}{tys:List Ty}{hyps:List Fm}(hc:(Ck.mk lems tys hyps).ok){q:Pf}{m:Nat}(k1:q.err=0)(k2:Ib (10000+m*1000000) q)(k3:(yb lems tys hyps q).2.2=0)(hm:m<=100):
 JH q=(CB,false,4)\/JH q=(q,false,0)\/(JH q=((xv q).1,true,0)/\(xv q).1.err=0/\Ib (10000+(m+1:Nat)*1000000) (xv q).1/\
  (JV (yb lems tys hyps (xv q).1).2.2\/((yb lems tys hyps (xv q).1).2.2=0/\
  (Gr (yb lems tys hyps (xv q).1).1 (yb lems tys hyps q).1=0\/Gr (yb lems tys hyps (xv q).1).1 (yb lems tys hyps q).1=4\/Gr (yb lems tys hyps (xv q).1).1 (yb lems tys hyps q).1=5)/\
  ∀w∈(yb lems tys hyps (xv q).1).2.1,w∈(yb lems tys hyps q).2.1))):=by
 have hn:q.Da=true:=Ib.near ((Pf.Aa q).1 k1).1 (k2.mono kn);unfold JH;rw[if_neg (by simp[k1]),if_neg (by simp[hn])];by_cases h1:(xv q).2.2≠0
 .rw[if_pos h1];have:(xv q).2.2=4:=by
   unfold xv at h1 ⊢;split
   .rfl
   .rename_i h;rw[if_neg h] at h1;exact absurd rfl h1
  rw[this];exact .inl rfl
 rw[if_neg h1];have h1:=fC.1 h1;by_cases h2:(xv q).2.1=true
 .refine .inr (.inr ⟨jT rfl (jT h2 h1),?_⟩);have hI:yb lems tys hyps q=((yb lems tys hyps q).1,(yb lems tys hyps q).2.1,0):=jT rfl (jT rfl k3);obtain⟨r1,r2⟩:=Ycx hc hI h1;have hb:=Yk9 kn kn k1 k2 h1;exact⟨r1,hb.mono kn,r2⟩
 .have h2:(xv q).2.1=false:=by simpa using h2
  exact .inr (.inl (Ztw (Zt2 h1 h2) k1))
theorem QA{lems:List Fm}{tys:List Ty}{hyps:List Fm}{q:Pf}(hc:(Ck.mk lems tys hyps).ok)(he:(yb lems tys hyps q).2.2=0):(yb lems tys hyps q).1.full<=266240/\(yb lems tys hyps q).2.1.length<=16:=by
 unfold yb at he ⊢;split at he
 .exact s8
 .rename_i h0;rw[if_neg h0];split at he
  .exact s8
  .rename_i h;rw[if_neg h];have hs:=((Pf.Aa q).1 (fC.1 h)).1;obtain⟨a,_,b⟩:=((Kb q hs) _ hc).1 he;have:=b.len;have:=hc.len;simp only at*;exact⟨yh a,kn⟩
theorem Qo{lems:List Fm}{tys:List Ty}{hyps:List Fm}{n:Nat}{p:Pf}(hp:Made n p)(he:(yb lems tys hyps p).2.2=0):L6 lems tys hyps p 0:=by
 refine⟨?_,⟨KB hp.ix kn,MW hp.hx kn,Q7 hp.lx kn⟩,he⟩;show p.err=0;unfold yb at he;split at he
 .exact s8
 .split at he
  .exact s8
  .rename_i h;exact fC.1 h
theorem Qk{lems:List Fm}{tys:List Ty}{hyps:List Fm}(hc:(Ck.mk lems tys hyps).ok){p:Pf}(hp:p.full<274877906944):
 PC E 14 [.s .fm lems,.agg [.s .ty tys,.s .fm hyps],.agg p.view] (En (yb lems tys hyps p).1 (yb lems tys hyps p).2.1 (yb lems tys hyps p).2.2):=by
 have h0:=hc.sum;exact SW lems hyps tys p (fun f hf=>nW) (fun f hf=>nX) ob nU nV hp
theorem Zyo(l:List Int):PC E 3 [.s .int l] (.bool true):=by
 have hsane:=Yhu;have hfew:=Ysy l;by_cases hl:l.length<=500;case neg=>
  rw[decide_eq_false hl] at hfew;refine M.F Tryz.func3 ?_;refine M.w2 @hsane @hfew ?_
  rfl
 rw[decide_eq_true hl] at hfew;have hnew:=Ytc l;have hd:(Dk.mk l 0).ok:=⟨iH _,lq⟩;obtain⟨d,hde⟩:∃d,d=Dk.mk l 0:=⟨_,rfl⟩;rw[<-hde] at hnew hd;have hlm:=Yht d hd;have hsq:=Ynn d.lm.2 (Dk.KT hd);have hd2:=Dk.LM (Dk.KT hd);have hc:=Yti d;have hg:=d.lm.2.CD;have hh:=d.lm.2.Hw;generalize d.lm.2.Nx=d2 at*;generalize d.lm.2.KS=hyps at*;generalize d.lm.2.ctx.1=tys at*;generalize d.lm.1=lems at*;generalize d.lm.2=d1 at*;obtain⟨p0,d3,hp0,ok3,hA⟩:=Yhz lems tys hyps hc kn hg d2 hd2;obtain⟨i,d4,ok4,hi,hN0⟩:=GC d3 2 ok3 kn;have b3:DI 3=108000000:=kq
 by_cases h0:i=0
 .subst h0;obtain⟨p,x1,u1,d5,hp,ex1,ox1,ok5,hR⟩:=Sc 3 kn lems tys hyps hc hg d4 ok4;have fp:=hp.full;have hI:=Qk hc (p:=p) kn;by_cases he:(yb lems tys hyps p).2.2=0;case neg=>
   generalize (yb lems tys hyps p).1=x at*;generalize (yb lems tys hyps p).2.1=xs at*;generalize (yb lems tys hyps p).2.2=e at*;refine M.F Tryz.func3 ?_;(repeat' first|refine M.w2 @hsane @hfew ?_|refine M.cb (hnew) [] 1 ?_|refine M.cb (hlm) [0] 0 ?_|refine M.cb (hsq) [0] 0 ?_|refine M.cb (hA) [0] 0 ?_|refine M.cb (hN0) [0] 0 ?_|refine M.cb (hR) [0] 0 ?_|refine M.c2 (hI) ?_|refine M.cs ?_ ?_<;>intro h|fail);all_goals first
    |rfl
    |(exfalso;simp at h;omega)
    |(exfalso;simp at h;exact he h)
    |trace_state
  have hI0:L6 lems tys hyps p 0:=Qo hp he;rw[he] at hI;refine M.F Tryz.func3 ?_;(repeat' first|refine M.w2 @hsane @hfew ?_|refine M.cb (hnew) [] 1 ?_|refine M.cb (hlm) [0] 0 ?_|refine M.cb (hsq) [0] 0 ?_|refine M.cb (hA) [0] 0 ?_|refine M.cb (hN0) [0] 0 ?_|refine M.cb (hR) [0] 0 ?_|refine M.c2 (hI) ?_|fail);all_goals first
   |(exfalso;simp at h;omega)
   |skip
  refine AW.block (AW.upto 4 (fun m=>L6 lems tys hyps p m)
   (fun m=>([(4,.s .fm lems),(5,.ptr 0 0),(6,.ptr 1 0),(7,.ptr 2 0),(49,.i m)],⟨3,[(0,.var [.s .ty tys,.s .fm hyps]),(1,.var (EJ p m).view),(2,.var (NY lems tys hyps (EJ p m)))]⟩))
   hI0 (M.W [some 1,some 2,some 3]) fun m hm hP=> ?_)
  by_cases hlt:m<4;case neg=>
   exact rY
  obtain⟨k1,k2,k3⟩:=hP;have hK:=aT hc k1 k2 k3 kn;have fq:=LH k1;have st:=V9 (EJ p m) kn;obtain⟨v1,v2⟩:=QA hc k3;rcases hK with e|e|⟨e,r1,r2,hr⟩
  .exact qQ
  .exact qC
  .exact pV
 .have hp:=hp0;generalize p0=p at*;have fp:=hp.full;have hI:=Qk hc (p:=p) kn;by_cases he:(yb lems tys hyps p).2.2=0;case neg=>
   generalize (yb lems tys hyps p).1=x at*;generalize (yb lems tys hyps p).2.1=xs at*;generalize (yb lems tys hyps p).2.2=e at*;refine M.F Tryz.func3 ?_;(repeat' first|refine M.w2 @hsane @hfew ?_|refine M.cb (hnew) [] 1 ?_|refine M.cb (hlm) [0] 0 ?_|refine M.cb (hsq) [0] 0 ?_|refine M.cb (hA) [0] 0 ?_|refine M.cb (hN0) [0] 0 ?_|refine M.c2 (hI) ?_|refine M.cs ?_ ?_<;>intro h|fail);all_goals first
    |rfl
    |(exfalso;simp at h;omega)
    |(exfalso;simp at h;exact he h)
    |trace_state
  have hI0:L6 lems tys hyps p 0:=Qo hp he;rw[he] at hI;refine M.F Tryz.func3 ?_;(repeat' first|refine M.w2 @hsane @hfew ?_|refine M.cb (hnew) [] 1 ?_|refine M.cb (hlm) [0] 0 ?_|refine M.cb (hsq) [0] 0 ?_|refine M.cb (hA) [0] 0 ?_|refine M.cb (hN0) [0] 0 ?_|refine M.c2 (hI) ?_|refine M.cs ?_ ?_<;>intro h|fail);all_goals first
   |(exfalso;simp at h;omega)
   |skip
  refine AW.block (AW.upto 4 (fun m=>L6 lems tys hyps p m)
   (fun m=>([(4,.s .fm lems),(5,.ptr 0 0),(6,.ptr 1 0),(7,.ptr 2 0),(49,.i m)],⟨3,[(0,.var [.s .ty tys,.s .fm hyps]),(1,.var (EJ p m).view),(2,.var (NY lems tys hyps (EJ p m)))]⟩))
   hI0 (M.W [some 1,some 2,some 3]) fun m hm hP=> ?_)
  by_cases hlt:m<4;case neg=>
   exact rY
  obtain⟨k1,k2,k3⟩:=hP;have hK:=aT hc k1 k2 k3 kn;have fq:=LH k1;have st:=V9 (EJ p m) kn;obtain⟨v1,v2⟩:=QA hc k3;rcases hK with e|e|⟨e,r1,r2,hr⟩
  .exact qQ
  .exact qC
  .exact pV
end Go.Ab
