/- A part of this seat's proofs. No conditions. -/
import Derived.Test.YtknjfffhfolkcaaGreatDoorHST17
namespace Go.Ab
open Go Go.Proofs
set_option maxRecDepth 100000
set_option maxHeartbeats 4000000
set_option linter.all false
def Qy(i:Int):Tm:= .mk 8 0 (.mk 0 []) [xy i,.mk 7 0 (.mk 0 []) []]
theorem Yg4{i:Int}(h:0<=i/\i<3):C5 (Qy i):=by
 obtain⟨m,rfl⟩:∃m:Nat,i=m:=⟨i.toNat,by omega⟩;have h4:m=0\/m=1\/m=2:=by omega
 rcases h4 with rfl|rfl|rfl
 .exact GU _ (by decide+kernel) (by decide+kernel) (by decide+kernel)
 .exact GU _ (by decide+kernel) (by decide+kernel) (by decide+kernel)
 .exact GU _ (by decide+kernel) (by decide+kernel) (by decide+kernel)
theorem Yjg(lems:List Fm)(tys:List Ty)(hyps:List Fm)(hc:(Ck.mk lems tys hyps).ok)(hs:Am tys)(d d1 d2:Dk)(ok2:d2.ok){p:Pf}{x:Fm}{u:List Int}(mp:Made (C8 2) p)(ex:x.err=0)(ox:x.Bg tys)
 (h1:AC E 49 [.ptr 0 0,.s .fm lems,.agg [.s .ty tys,.s .fm hyps],.i 2] ⟨1,[(0,.var d.cells)]⟩ (.AD [.agg p.view,.agg (x.view++[.s .int u])]) ⟨1,[(0,.var d1.cells)]⟩)
 (h2:AC E 24 [.ptr 0 0,.i 5] ⟨1,[(0,.var d1.cells)]⟩ (.i 4) ⟨1,[(0,.var d2.cells)]⟩):J1 lems tys hyps d:=by
 obtain⟨i,d4,ok4,hi,h4⟩:=FB d2 3 ok2 (by omega);have hl:tys.length<=16:=by have:=hc.len;simpa using this
 have no:=NR tys (i:=i) (by omega);have ti:=Yg4 hi;have fN:=z6 no.err;have h5:=GS i;have n1:=CH 7 [] (by simp);have n2:=CH 8 [xy i,.mk 7 0 (.mk 0 []) []] (by simp only[Wn,WI,Wt,WU,show(Tm.mk 7 0 (.mk 0 []) []).full=2 from by decide];omega);have fx:=ye ex;have hU:=E1 ox ((Fm.Ad _).1 ex).1 (by have:=((Fm.Ad _).1 ex).2;omega) (by omega) 0 1 (by omega) (by omega);have fl:=Ix x 0 1;have hf:=MO ex ox An (by omega);have hy:=Ih 0;have mh:Made 10 (va 0):=Made.hyp (by omega);have fh:=mh.full;have fp:=mp.full;have b2:C8 2=36000000:=by decide
 have ft:=ti.2.2;have h9:=IG 17 (x.A9 0 1) (Qy i) p (va 0) (by omega) (by omega) (by omega) (by omega);have m9:=Made.ind (k:=17) (Or.inr rfl) hf ti mp mh;have m8:=m9.up (show C8 2+10+600002<=400000000 by rw[b2];decide);refine⟨_,d4,m8,ok4,?_⟩;clear m8 m9 ti no hf mh ft;unfold Qy at h9 ⊢;generalize x.A9 0 1=y at*;generalize xy i=N at*;refine M.F Tryz.func11 ?_;(repeat' first|refine M.gw ?_|refine M.cb (h1) [0] 0 ?_|refine M.cb (h2) [0] 0 ?_|refine M.cb (h4) [0] 0 ?_|refine M.c2 (h5) ?_|refine M.c2 (n1) ?_|refine M.c2 (n2) ?_|refine M.c2 (hU) ?_|refine M.c2 (hy) ?_|refine M.c2 (h9) ?_|refine M.bl ?_|fail)
 (exact M.n2 [some 0] (h8:=(by simp[zk,V.wk,V.Ap,zc,Ty.view,Tm.view,Pf.view])))
theorem Zsy(t:Tm)(ti:C5 t):Made 2000000 (Io t):=by
 have s1:Made 700000 Cc:=(Made.sub (f:=Bf (A0 (Em.re (zx 0 1) 0) (Cg.re (zx 0 1) 0)) (A0 (Em.re (zx 0 1) 0) (vT 0))) (Mu _ (by decide+kernel) (by decide+kernel) (by decide+kernel)) (Made.hyp (i:=0) (by omega)) (Made.ref (t:=A0 Em Cg) (GU _ (by decide+kernel) (by decide+kernel) (by decide+kernel)))).up (by omega);exact(Made.ind (k:=16) (by omega) (f:=Bf Cg (vT 0)) (t:=t) (Mu _ (by decide+kernel) (by decide+kernel) (by decide+kernel)) ti (Made.ref (GU zT (by decide) (by decide) (by decide))) s1).up (by omega)
theorem Zzs(lems:List Fm)(tys:List Ty)(hyps:List Fm)(hc:(Ck.mk lems tys hyps).ok)(hh:hyps.length<=10)(hs:Am tys)(d:Dk)(hd:d.ok):J1 lems tys hyps d:=by
 obtain⟨p,x,u,d1,mp,ex,ox,ok1,h1⟩:=Rh 2 (by omega) lems tys hyps hc hs d hd;obtain⟨i,d2,ok2,hi,h2⟩:=FB d1 5 ok1 (by omega);have hl:tys.length<=20:=by have:=hc.len;simp only at this;omega
 rcases(show i=0\/i=1\/i=2\/i=3\/i=4 by omega) with rfl|rfl|rfl|rfl|rfl
 .exact Yjd lems tys hyps hc hs d d1 d2 ok2 mp h1 h2
 .exact Yj7 lems tys hyps hc hh hs d d1 d2 ok2 mp ex ox h1 h2
 .exact Yiu lems tys hyps hc hs d d1 d2 ok2 mp ex ox h1 h2
 .exact Yiy lems tys hyps hc hs d d1 d2 ok2 mp h1 h2 fun t h h'=>Zsy t (C5.of h h' hl)
 .exact Yjg lems tys hyps hc hs d d1 d2 ok2 mp ex ox h1 h2
theorem Yjq(d:Dk):(Ck.mk d.lm.1 d.lm.2.ctx.1 d.lm.2.HM).ok:=by
 have h:=d.lm.2.Jg;exact⟨h.ctx,h.nh,by have:=d.Ii;simp only;omega,h.hyps,fun f hf=>Dk.DD _ _ _ zn f hf⟩
theorem Zxp(p:Pf):PC E 6 [.agg p.view] (.i (p.cn 20000)):=by
 have h:=Yea _ p 20000 (Wj _) (by omega);refine M.F Tryz.func6 ?_;(repeat' first|refine M.gw ?_|refine M.c2 (h) ?_|fail)
 rfl
theorem Zsr(p:Pf):(FJ p).1.full<=1064960:=by
 unfold FJ;by_cases he:p.err≠0
 .rw[if_pos he];simp only[y5];omega
 rw[if_neg he];by_cases hn:p.BB=false
 .rw[if_pos hn];simp only[y5];omega
 rw[if_neg hn];by_cases h0:(yn p).2.2≠0
 .rw[if_pos h0];simp only[y5];omega
 rw[if_neg h0];obtain⟨_,e1,_,e2⟩:=H9 (Ws.1 h0);rw[e1];exact yj e2
theorem Uq:∀(k:Nat) (p:Pf) (n:Int),p.err=0->(FH k p n).1.full<=1064960
 |0,p,n,he=>by
  unfold FH;split
  .exact yj he
  .simp only[y5];omega
 |k+1,p,n,he=>by
  rw[Zsk];by_cases h0:(yn p).2.2≠0
  .rw[if_pos h0];simp only[y5];omega
  rw[if_neg h0];split
  .exact yj he
  .obtain ⟨_,e1,_,e2⟩:=H9 (Ws.1 h0);exact Uq k _ _ (by rw[e1];exact e2)
theorem Zsu(p:Pf)(s:Int):(Gd p s).1.full<=1064960:=by
 unfold Gd;by_cases he:p.err≠0
 .rw[if_pos he];simp only[y5];omega
 rw[if_neg he];split
 .simp only[y5];omega
 .exact Uq _ _ _ (Ws.1 he)
theorem Zw7(l:List Int)(raw:Pf)(s:Int)(hs: -9223372036854775808<=s/\s<=9223372036854775807):PC E 3 [.s .int l,.agg raw.view,.i s] (.bool true):=by
 have hsane:=Yan;have hfew:=Yi3 l;have hno:=Zxp raw;by_cases hsm:l.length<=500/\raw.cn 20000<=500;case neg=>
  by_cases hl:l.length<=500;case neg=>
   rw[decide_eq_false hl] at hfew;refine M.F Tryz.func3 ?_;(repeat' first|refine M.go ?_|refine M.c2 (hsane) ?_|refine M.c2 (hfew) ?_|refine M.z1 5 ?_|refine M.gk ?_|fail);all_goals first
    |rfl
    |(exfalso;simp at h;omega)
    |trace_state
  rw[decide_eq_true hl] at hfew;refine M.F Tryz.func3 ?_;(repeat' first|refine M.go ?_|refine M.c2 (hsane) ?_|refine M.c2 (hfew) ?_|refine M.c2 (hno) ?_|refine M.z1 5 ?_|refine M.cs ?_ ?_<;>intro h|refine M.gk ?_|fail);all_goals first
   |rfl
   |(exfalso;apply hsm;simp at*;omega)
   |trace_state
 obtain⟨hl,hc1⟩:=hsm;have fraw:raw.full<=500:=by have:=(raw.BR 20000).2.2 (by omega);omega
 rw[decide_eq_true hl] at hfew;have hnew:=Yjr l;have hd:(Dk.mk l 0).ok:=⟨XE _,by simp only;omega⟩;obtain⟨d,hde⟩:∃d,d=Dk.mk l 0:=⟨_,rfl⟩;rw[<-hde] at hnew hd;have hlm:=Ya3 d hd;have hsq:=Ye7 d.lm.2 (Dk.HU hd);have hd2:=Dk.IA (Dk.HU hd);have hc:=Yjq d;have hg:=d.lm.2.Cy;have hh:=d.lm.2.FA;generalize d.lm.2.KS=d2 at*;generalize d.lm.2.HM=hyps at*;generalize d.lm.2.ctx.1=tys at*;generalize d.lm.1=lems at*;generalize d.lm.2=d1 at*;obtain⟨p,d3,hp,ok3,hA⟩:=OD 3 (by omega) lems tys hyps d2 3 rfl hd2 hc hg;obtain⟨r,d4,hr,ok4,hB⟩:=Zzs lems tys hyps hc (by omega) hg d3 ok3;have fp:=hp.full;have fr:=hr.full;have b3:C8 3=108000000:=by decide
 rw[b3] at fp;have hQ:∀q∈[raw,p,r],q.full<800000000:=by
  intro q hq;simp only[WE,WS,or_false] at hq;rcases hq with rfl|rfl|rfl<;>omega
 have hm:=VO s 12 (by omega);have hmb:0<=G3 s 12/\G3 s 12<12:=RD s 12 (by omega);generalize G3 s 12=m1 at*;obtain⟨m2,hm2⟩:∃m2,m2=if(20:Int)<s then 20 else s:=⟨_,rfl⟩
 have hm2b: -9223372036854775808<=m2/\m2<=9223372036854775807:=by rw[hm2];split<;>omega
 refine M.F Tryz.func3 ?_;(repeat' first|refine M.go ?_|refine M.c2 (hsane) ?_|refine M.c2 (hfew) ?_|refine M.c2 (hno) ?_|refine M.z1 5 ?_|refine M.cs ?_ ?_<;>intro h|refine M.gk ?_|fail);all_goals first
  |(exfalso;simp at h;omega)
  |skip
 clear hsane hno hfew;(repeat' first|refine M.gw ?_|refine M.cb (hnew) [] 1 ?_|refine M.cb (hlm) [1] 0 ?_|refine M.cb (hsq) [1] 0 ?_|refine M.cb (hA) [1] 0 ?_|refine M.cb (hB) [1] 0 ?_|fail);clear hnew hlm hsq hA hB;refine AW.range ([raw,p,r]:List Pf).length (fun m=>True) (fun m=>([(2,.i s),(55,.s .pf [raw,p,r]),(56,.i ([raw,p,r]:List Pf).length),(57,.i m)],⟨0,[]⟩))
  (by simp) (fun m=>rfl) (fun m=>rfl) rfl trivial (M.W []) ?_ ?_
 .intro k hk _;have hq:=hQ _ (Wi hk);have c1:=Zw9 [raw,p,r][k] (by omega);have c2:=Ya7 [raw,p,r][k] (by omega);have c3:=Sc [raw,p,r][k] (by omega);have c4:=Yd0 [raw,p,r][k] (by omega);have hf:=Zsr [raw,p,r][k];have c5:=Ok _ (FJ [raw,p,r][k]).1 (Wj _) (by omega);generalize (decide ([raw,p,r][k].err=0)&&xl [raw,p,r][k])=b at*;generalize [raw,p,r][k].err=e1 at*;generalize FJ [raw,p,r][k]=R at*;obtain⟨u,f,e⟩:=R;simp only at c3 c4 c5;clear hf;(repeat' first|refine M.go ?_|refine M.c2 (c1) ?_|refine M.c2 (c2) ?_|refine M.c2 (c3) ?_|refine M.c2 (c4) ?_|refine M.z1 14 ?_|refine M.gk ?_|fail);cases b<;>cases f;all_goals
   (repeat' first|refine M.go ?_|refine M.c2 (c5) ?_|refine M.gs ?_ ?_<;>intro h|refine M.z1 16 ?_|refine M.gk ?_|fail);all_goals first
    |(exfalso;simp at h;done)
    |skip
   (repeat' first|refine M.go ?_|refine M.c2 (hm) ?_|refine L.mn U U U U ?_|refine M.z1 17 ?_|refine M.gk ?_|fail);rw[<-hm2];refine AW.range ([m1,m2]:List Int).length (fun m=>True) (fun j=>([(2,.i s),(55,.s .pf [raw,p,r]),(56,.i ([raw,p,r]:List Pf).length),(57,.i k),(11,.ptr 0 0),(111,.s .int [m1,m2]),(112,.i ([m1,m2]:List Int).length),(113,.i j)],⟨1,[(0,.var [raw,p,r][k].view)]⟩))
    (by simp) (fun m=>rfl) (fun m=>rfl) rfl trivial (M.W [some 0]) ?_ ?_
   .intro j hj _;have hb: -9223372036854775808<=[m1,m2][j]/\[m1,m2][j]<=9223372036854775807:=by
     have:=Wi hj;simp only[WE,WS,or_false] at this;rcases this with h|h<;>rw[h]<;>omega
    have d1:=Zr6 [raw,p,r][k] [m1,m2][j] (by omega) hb;have d2:=Zoy [raw,p,r][k] [m1,m2][j] (by omega) hb;have hf:=Zsu [raw,p,r][k] [m1,m2][j];have d3:=Ok _ (Gd [raw,p,r][k] [m1,m2][j]).1 (Wj _) (by omega);generalize Gd [raw,p,r][k] [m1,m2][j]=R at*;obtain⟨u,n,e⟩:=R;simp only at d1 d2 d3;clear hf;(repeat' first|refine M.gw ?_|refine M.c2 (d1) ?_|refine M.c2 (d2) ?_|refine M.c2 (d3) ?_|refine M.gs ?_ ?_<;>intro h|fail);all_goals first
     |(exfalso;simp at h;done)
     |skip
    exact⟨rfl,trivial,(M.W [some 0])⟩
   .intro _;repeat'(first|with_reducible refine K.bN ?_)
    exact⟨rfl,trivial,(M.W [])⟩
 .intro _;(repeat' first|refine M.gw ?_|fail)
  rfl
end Go.Ab
