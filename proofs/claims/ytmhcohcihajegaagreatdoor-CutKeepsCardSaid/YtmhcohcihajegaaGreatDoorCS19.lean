/- A part of this seat's proofs. No conditions. -/
import Derived.Test.YtmhcohcihajegaaGreatDoorCS20
namespace Go.Ab
open Go Go.Proofs
set_option maxRecDepth 100000
set_option maxHeartbeats 4000000
set_option linter.all false
theorem Yak:∀(n:Nat) (p:Pf),p.full<=n->n<549755813888->PC E 149 [.agg p.view] (.i p.size):=by
 intro n;induction n with
 |zero=>intro p h;have:=p.Ad;omega
 |succ n ih=>
 intro p hsz hn;have hsz':=p.Ag;have hse:=p.size_eq;have hlen:=ze Pf.full Pf.Ad p.args;have hlen1:=ze Fm.full Fm.Ad p.Ae;have hlen2:=ze Tm.full Tm.Ad p.terms;have hle0:=x6 (f:=Tm.size) (g:=Tm.full) p.terms fun x _=>x.An;have hle1:=x6 (f:=Fm.size) (g:=Fm.full) p.Ae fun x _=>x.An;have hle2:=x6 (f:=Pf.size) (g:=Pf.full) p.args fun x _=>x.An;refine M.F Tryz.func149 ?_;refine M.w0 ?_;refine M.rt p.terms.length
  (fun m=>([(1,.ptr 0 0),(3,.i (1+((p.terms.take m).map Tm.size).sum:Nat)),(11,.s .tm p.terms),(12,.i p.terms.length),(13,.i m)],⟨1,[(0,.var p.view)]⟩))
  (M.W AJ) ?_ ?_
 .intro m hm _;have hs1:=yz Tm.size p.terms m hm;have hs2:=zc Tm.full (fA hm);have hs3:=zw Tm.size p.terms (m+1);have hc:=xo _ p.terms[m] (fB _) kn;refine M.w1 @hc ?_;refine⟨rfl,trivial,?_⟩;simp only[hs1];exact(M.W AJ (hf:=(by(repeat'(first|exact trivial|refine And.intro ?_ ?_|refine⟨_,U,_,U,?_⟩|exact Ap.refl _|exact Ap.of_eq lJ));done)))
 .intro _;simp only[fH];refine M.w0 ?_;refine M.rt p.Ae.length
   (fun m=>([(1,.ptr 0 0),(3,.i (1+(p.terms.map Tm.size).sum+((p.Ae.take m).map Fm.size).sum:Nat)),(23,.s .fm p.Ae),(24,.i p.Ae.length),(25,.i m)],⟨1,[(0,.var p.view)]⟩))
   (M.W AJ) ?_ ?_
  .intro m hm _;have hs1:=yz Fm.size p.Ae m hm;have hs2:=zc Fm.full (fA hm);have hs3:=zw Fm.size p.Ae (m+1);have hc:=SK _ p.Ae[m] (fB _) kn;refine M.w1 @hc ?_;refine⟨rfl,trivial,?_⟩;simp only[hs1];exact(M.W AJ (hf:=(by(repeat'(first|exact trivial|refine And.intro ?_ ?_|refine⟨_,U,_,U,?_⟩|exact Ap.refl _|exact Ap.of_eq lJ));done)))
  .intro _;simp only[fH];refine M.w0 ?_;refine M.rt p.args.length
    (fun m=>([(1,.ptr 0 0),(3,.i (1+(p.terms.map Tm.size).sum+(p.Ae.map Fm.size).sum+((p.args.take m).map Pf.size).sum:Nat)),(35,.s .pf p.args),(36,.i p.args.length),(37,.i m)],⟨1,[(0,.var p.view)]⟩))
    (M.W AJ) ?_ ?_
   .intro m hm _;have hs1:=yz Pf.size p.args m hm;have hs2:=zc Pf.full (fA hm);have hs3:=zw Pf.size p.args (m+1);have hc:=ih p.args[m] kn kn;refine M.w1 @hc ?_;refine⟨rfl,trivial,?_⟩;simp only[hs1];exact(M.W AJ (hf:=(by(repeat'(first|exact trivial|refine And.intro ?_ ?_|refine⟨_,U,_,U,?_⟩|exact Ap.refl _|exact Ap.of_eq lJ));done)))
   .intro _;simp only[fH];refine M.w0 ?_;rw[hse]
    rfl
theorem Zzy:∀(n:Nat) (p:Pf),p.full<=n->n<549755813888->PC E 148 [.agg p.view] (.bool p.small):=by
 intro n;induction n with
 |zero=>intro p h;have:=p.Ad;omega
 |succ n ih=>
 intro p hsz hn;have hsz':=p.Ag;have hse:=p.CE;have hlen:=ze Pf.full Pf.Ad p.args;have hlen1:=ze Fm.full Fm.Ad p.Ae;have hlen2:=ze Tm.full Tm.Ad p.terms;refine M.F Tryz.func148 ?_;refine M.w0 ?_;refine M.rp p.terms.length (fun m=>∀j (hj:j<p.terms.length),j<m->decide (p.terms[j].size<=4096)=true)
  (fun m=>([(1,.ptr 0 0),(10,.s .tm p.terms),(11,.i p.terms.length),(12,.i m)],⟨1,[(0,.var p.view)]⟩))
  (fun j hj h=>kn) (M.W AJ) ?_ ?_
 .intro m hm hP;have hs2:=zc Tm.full (fA hm);have hc:=xo _ p.terms[m] (fB _) kn;have hle:=p.terms[m].An;(repeat' first|refine M.w1 @hc ?_|refine M.cs ?_ ?_<;>intro h|fail)
  .have e:p.small=false:=by
    rw[hse,u2 (fun t:Tm=>decide (t.size<=4096)) hm mV];rfl
   rw[e];rfl
  .exact ⟨rfl,ym (p:=fun t:Tm=>decide (t.size<=4096)=true) hm hP mV,(M.W AJ)⟩
 .intro hP;have a1:=Gy (fun t:Tm=>decide (t.size<=4096)) p.terms fun j hj=>hP j hj hj;rw[a1,gY] at hse;refine M.w0 ?_;refine M.rp p.Ae.length (fun m=>∀j (hj:j<p.Ae.length),j<m->decide (p.Ae[j].size<=4096)=true)
   (fun m=>([(1,.ptr 0 0),(21,.s .fm p.Ae),(22,.i p.Ae.length),(23,.i m)],⟨1,[(0,.var p.view)]⟩))
   (fun j hj h=>kn) (M.W AJ) ?_ ?_
  .intro m hm hP;have hs2:=zc Fm.full (fA hm);have hc:=SK _ p.Ae[m] (fB _) kn;have hle:=p.Ae[m].An;(repeat' first|refine M.w1 @hc ?_|refine M.cs ?_ ?_<;>intro h|fail)
   .have e:p.small=false:=by
     rw[hse,u2 (fun t:Fm=>decide (t.size<=4096)) hm mV];rfl
    rw[e];rfl
   .exact ⟨rfl,ym (p:=fun t:Fm=>decide (t.size<=4096)=true) hm hP mV,(M.W AJ)⟩
  .intro hP;have a1:=Gy (fun t:Fm=>decide (t.size<=4096)) p.Ae fun j hj=>hP j hj hj;rw[a1,gY] at hse;refine M.w0 ?_;refine M.rp p.args.length (fun m=>∀j (hj:j<p.args.length),j<m->p.args[j].small=true)
    (fun m=>([(1,.ptr 0 0),(32,.s .pf p.args),(33,.i p.args.length),(34,.i m)],⟨1,[(0,.var p.view)]⟩))
    (fun j hj h=>kn) (M.W AJ) ?_ ?_
   .intro m hm hP;have hs2:=zc Pf.full (fA hm);have hc:=ih p.args[m] kn kn;cases hb:p.args[m].small with
    |false=>
     rw[hb] at hc;have e:p.small=false:=by rw[hse,u2 Pf.small hm hb]
     rw[e];refine M.w1 @hc ?_
     rfl
    |true=>
     rw[hb] at hc;refine M.w1 @hc ?_;exact⟨rfl,ym (p:=fun t:Pf=>t.small=true) hm hP hb,(M.W AJ)⟩
   .intro hP;have e:p.small=true:=by rw[hse];exact Gy Pf.small p.args fun j hj=>hP j hj hj
    rw[e];refine M.w0 ?_
    rfl
theorem Yp(p:Pf)(hp:p.full<549755813888):PC E 100 [.agg p.view] (.bool (p.small&&decide (p.size<=16384))):=by
 have h1:=Zzy _ p (fB _) hp;have h2:=Yak _ p (fB _) hp;have h3:=p.An;cases hs:p.small with
 |false=>
  rw[hs] at h1;refine M.F Tryz.func100 ?_;refine M.w1 @h1 ?_
  rfl
 |true=>
  rw[hs] at h1;have e:decide (((p.size:Nat):Int)<=16384)=decide (p.size<=16384):=by rw[decide_eq_decide];omega
  refine M.F Tryz.func100 ?_;refine M.w2 @h1 @h2 ?_;simp[zn,V.wk,V.Ar,za,e]
theorem Ygd(k:Int):PC E 145 [.i k] (.AP [.agg ((B6 k).getD TE).view,.bool (B6 k).isSome]):=by
 by_cases hk:1<=k/\k<=20
 .have:k=1\/k=2\/k=3\/k=4\/k=5\/k=6\/k=7\/k=8\/k=9\/k=10\/k=11\/k=12\/k=13\/k=14\/k=15\/k=16\/k=17\/k=18\/k=19\/k=20:=kn
  rcases this with rfl|rfl|rfl|rfl|rfl|rfl|rfl|rfl|rfl|rfl|rfl|rfl|rfl|rfl|rfl|rfl|rfl|rfl|rfl|rfl;all_goals(refine M.F Tryz.func145 ?_)
  all_goals(refine M.v0 ?_)
  all_goals rfl
 .have e:B6 k=none:=by
   unfold B6
   repeat rw[if_neg kn]
  rw[e];have b:∀j:Int,1<=j->j<=20->¬(k==j)=true:=fun j h1 h2 h=>kS
  have b1:=b 1 kn kn;have b2:=b 2 kn kn;have b3:=b 3 kn kn;have b4:=b 4 kn kn;have b5:=b 5 kn kn;have b6:=b 6 kn kn;have b7:=b 7 kn kn;have b8:=b 8 kn kn;have b9:=b 9 kn kn;have b10:=b 10 kn kn;have b11:=b 11 kn kn;have b12:=b 12 kn kn;have b13:=b 13 kn kn;have b14:=b 14 kn kn;have b15:=b 15 kn kn;have b16:=b 16 kn kn;have b17:=b 17 kn kn;have b18:=b 18 kn kn;have b19:=b 19 kn kn;have b20:=b 20 kn kn;refine M.F Tryz.func145 ?_;(repeat' first|refine M.v0 ?_|refine M.cs ?_ ?_<;>intro h|fail);all_goals first
   |contradiction
   |rfl
theorem Ybs:∀(n:Nat) (p:Pf),p.full<=n->n<549755813888->PC E 99 [.agg p.view] (.bool p.shape):=by
 intro n;induction n with
 |zero=>intro p h;have:=p.Ad;omega
 |succ n ih=>
 intro p hsz hn;have hsz':=p.Ag;have hse:=p.Ak;have hlen:=ze Pf.full Pf.Ad p.args;have hlen1:=ze Fm.full Fm.Ad p.Ae;have hlen2:=ze Tm.full Tm.Ad p.terms;have h1:=Ygd p.kind;cases hnd:B6 p.kind with
 |none=>
  have e:p.shape=false:=by rw[hse];simp[Pf.head,hnd]
  rw[hnd] at h1;rw[e];refine M.F Tryz.func99 ?_;refine M.w1 @h1 ?_
  rfl
 |some nd=>
 rw[hnd] at h1;simp only[iq,gI] at h1;have h3:=Wa p.ty;have h4:=Nf p.ty kn;have hok:=Wn p.ty;refine M.F Tryz.func99 ?_;(repeat' first|refine M.w3 @h1 @h3 @h4 ?_|refine M.gs ?_ ?_<;>intro h|refine M.cs ?_ ?_<;>intro h|fail);all_goals first
  |(have hd:p.head=false:=by(simp only[Pf.head,hnd];simp_all;done)
    have:p.shape=false:=by rw[hse,hd];rfl
    simp[this,zn,za,V.wk,V.Ar];done)
  |(have hd:p.head=false:=by(simp only[Pf.head,hnd];simp_all;omega)
    have:p.shape=false:=by rw[hse,hd];rfl
    simp[this,zn,za,V.wk,V.Ar];done)
  |(have hd:p.head=true:=by(simp only[Pf.head,hnd];simp_all;try omega)
    rw[hd,gY] at hse;refine M.rp p.terms.length (fun m=>∀j (hj:j<p.terms.length),j<m->p.terms[j].shape=true)
     (fun m=>([(1,.ptr 0 0),(78,.s .tm p.terms),(79,.i p.terms.length),(80,.i m)],⟨2,[(0,.var p.view),(1,.var nd.view)]⟩))
     (fun j hj h=>kn) (M.W Bo) ?_ ?_
    .intro m hm hP;have hs2:=zc Tm.full (fA hm);have hc:=Vw _ p.terms[m] (fB _) kn;cases hb:p.terms[m].shape with
     |false=>
      rw[hb] at hc;have e:p.shape=false:=by rw[hse,u2 Tm.shape hm hb];rfl
      rw[e];refine M.w1 @hc ?_
      rfl
     |true=>
      rw[hb] at hc;refine M.w1 @hc ?_;exact⟨rfl,ym (p:=fun t:Tm=>t.shape=true) hm hP hb,(M.W Bo)⟩
    .intro hP;have a1:=Gy Tm.shape p.terms fun j hj=>hP j hj hj;rw[a1,gY] at hse;refine M.w0 ?_;refine M.rp p.Ae.length (fun m=>∀j (hj:j<p.Ae.length),j<m->p.Ae[j].shape=true)
      (fun m=>([(1,.ptr 0 0),(89,.s .fm p.Ae),(90,.i p.Ae.length),(91,.i m)],⟨2,[(0,.var p.view),(1,.var nd.view)]⟩))
      (fun j hj h=>kn) (M.W Bo) ?_ ?_
     .intro m hm hP;have hs2:=zc Fm.full (fA hm);have hc:=eF _ p.Ae[m] (fB _) kn;cases hb:p.Ae[m].shape with
      |false=>
       rw[hb] at hc;have e:p.shape=false:=by rw[hse,u2 Fm.shape hm hb];rfl
       rw[e];refine M.w1 @hc ?_
       rfl
      |true=>
       rw[hb] at hc;refine M.w1 @hc ?_;exact⟨rfl,ym (p:=fun t:Fm=>t.shape=true) hm hP hb,(M.W Bo)⟩
     .intro hP;have a1:=Gy Fm.shape p.Ae fun j hj=>hP j hj hj;rw[a1,gY] at hse;refine M.w0 ?_;refine M.rp p.args.length (fun m=>∀j (hj:j<p.args.length),j<m->p.args[j].shape=true)
       (fun m=>([(1,.ptr 0 0),(100,.s .pf p.args),(101,.i p.args.length),(102,.i m)],⟨2,[(0,.var p.view),(1,.var nd.view)]⟩))
       (fun j hj h=>kn) (M.W Bo) ?_ ?_
      .intro m hm hP;have hs2:=zc Pf.full (fA hm);have hc:=ih p.args[m] kn kn;cases hb:p.args[m].shape with
       |false=>
        rw[hb] at hc;have e:p.shape=false:=by rw[hse,u2 Pf.shape hm hb]
        rw[e];refine M.w1 @hc ?_
        rfl
       |true=>
        rw[hb] at hc;refine M.w1 @hc ?_;exact⟨rfl,ym (p:=fun t:Pf=>t.shape=true) hm hP hb,(M.W Bo)⟩
      .intro hP;have e:p.shape=true:=by rw[hse];exact Gy Pf.shape p.args fun j hj=>hP j hj hj
       rw[e];refine M.w0 ?_
       rfl)
theorem aI(p:Pf)(hp:p.full<549755813888):PC E 40 [.agg p.view] (.i p.err):=by
 have h1:=Ybs _ p (fB _) hp;have h2:=Yp p hp;cases hs:p.shape with
 |false=>
  have e:p.err=2:=by simp[Pf.err,hs]
  rw[hs] at h1;rw[e];refine M.F Tryz.func40 ?_;refine M.w1 @h1 ?_
  rfl
 |true=>
  rw[hs] at h1;cases hf:p.small&&decide (p.size<=16384) with
  |false=>
   have e:p.err=4:=by
    simp only[Pf.err,hs];rw[if_neg ko,if_pos];cases hm:p.small with
    |false=>exact .inl rfl
    |true=>rw[hm] at hf;simp at hf;exact .inr hf
   rw[hf] at h2;rw[e];refine M.F Tryz.func40 ?_;refine M.w2 @h1 @h2 ?_
   rfl
  |true=>
   have e:p.err=0:=by simp at hf;exact(Pf.Aa p).2 ⟨hs,hf.1,hf.2⟩
   rw[hf] at h2;rw[e];refine M.F Tryz.func40 ?_;refine M.w2 @h1 @h2 ?_
   rfl
section
variable {c:Ck} (hc:c.ok) {p q:Pf} {r0 r1:Rs}
include hc
theorem ZE{k:Int}(hk:k=11\/k=15){f0 f1:Fm}{u0 u1:List Int}{e0 e1:Int}(hr0:r0 c=(f0,u0,e0))(hr1:GB r1 c f0=(f1,u1,e1))
 (hp:PC E 41 [.agg c.view,.agg p.view] (En f0 u0 e0)) (o0:GI c (f0,u0,e0))
 (hq:((c.below [f0.ty]).Ah (f0.args.getD 0 AK)).ok->PC E 41 [.agg ((c.below [f0.ty]).Ah (f0.args.getD 0 AK)).view,.agg q.view] (En f1 u1 e1))
 (o1:((c.below [f0.ty]).Ah (f0.args.getD 0 AK)).ok->GI ((c.below [f0.ty]).Ah (f0.args.getD 0 AK)) (f1,u1,e1)):
 PC E 156 [.agg c.view,.agg (Pf.mk k 0 (.mk 0 []) [] [] [p,q]).view] (CX (HC k r0 r1 c)):=by
 have hl:=hc.len;have hn:=hc.nh;have b0:=Ij hc o0;unfold HC;rw[hr0];simp only[hr1];by_cases he:e0=0;case neg=>
  rw[if_pos he];refine M.F Tryz.func156 ?_;(repeat' first|refine M.o1 @hp ?_|refine M.z1 4 ?_|refine M.cs ?_ ?_<;>intro h|refine M.gk ?_|fail);all_goals first
   |rfl
   |(exfalso;simp at h;exact he h)
   |trace_state
 subst he;rw[if_neg ko];have ho:=o0.1 rfl;have s0:=(Fm.Aa _).1 ho.1;by_cases hkd:f0.kind=kI k 15 7 5;case neg=>
  rw[if_pos hkd];rcases hk with rfl|rfl;all_goals
   refine M.F Tryz.func156 ?_;(repeat' first|refine M.o1 @hp ?_|refine M.z1 9 ?_|refine M.cs ?_ ?_<;>intro h|refine M.gk ?_|fail);all_goals first
    |rfl
    |(exfalso;simp at h;exact hkd h)
    |trace_state
 rw[if_neg (by simp[hkd])];have hkk:4<=f0.kind/\f0.kind<=7:=nY
 obtain⟨x,e⟩:=GM s0.1 hkk;have hx:f0.args.getD 0 AK=x:=by simp only at e;rw[e];rfl
 have hte:=Ks s0.1 hkk;have ex:=xh ho.1 (x:=x) (by simp only at e;rw[show(f0,u0,(0:Int)).1=f0 from rfl,e];simp[AL]);have ok0:=ho.2.1;simp only at e hte ok0;rw[e] at ok0;have o1':=Gk hkk ok0;rw[hx] at hq o1;clear ok0 hr1 hr0 s0 hx;generalize f0.ty=s at*;rw[hkd] at e;subst e;have h1:=N2 c 1 1 kn kn;by_cases hr:c.room 1 1=0;case neg=>
  rw[if_pos hr];rw[Oz hr] at h1;rcases hk with rfl|rfl;all_goals
   simp only[kI] at*;refine M.F Tryz.func156 ?_;refine M.w2 @hp @h1 ?_;all_goals first
    |rfl
    |trace_state
 rw[if_neg (by simp[hr])];have hro:=xw hr;rw[hr] at h1;have hb:((c.below [s]).Ah x).ok:=(hc.below (l:=[s]) hro.1 (by simpa using hte)).Ah (by simpa[Ck.below] using hro.2) ex o1';have h2:=Rq c hc [s] ko ko;have h3:=Sk (c.below [s]) x mT;have h4:=hq hb;have o1b:=o1 hb;have b1:=Ij hb o1b;by_cases he1:e1=0;case neg=>
  rw[if_pos he1];rcases hk with rfl|rfl;all_goals
   simp only[kI] at*;refine M.F Tryz.func156 ?_;(repeat' first|refine M.o5 @hp @h1 @h2 @h3 @h4 ?_|refine M.z1 15 ?_|refine M.cs ?_ ?_<;>intro h|refine M.gk ?_|fail);all_goals first
    |rfl
    |(exfalso;simp at h;exact he1 h)
    |trace_state
 subst he1;rw[if_neg ko];have hf1:=o1b.1 rfl;simp only at hf1;have s1:=(Fm.Aa _).1 hf1.1;have h5:=Xg _ f1 0 (fB _) kn kn kn s1.1;have hu:=ZZ u1;have hou:=Sm u1 1 kn kn b1.2.2;have hol:=QK u1 1;have hun:=KJ u0 (Eg u1 1) kn kn;have h6:=Yel _ f1 (fB _) kn;by_cases t0:zq 0 f1=0;case pos=>
  have ef:ul f1=(f1,0):=by unfold ul;rw[if_pos t0]
  rw[ef];rw[decide_eq_false mF] at h5;have h7:=h6;have hup:=Gx (hf1.2.1) s1.1 kn (by simp[Ck.below,Ck.Ah];omega) 1 (-1) kn kn;rw[if_neg ko];rcases hk with rfl|rfl
  .rw[if_neg ko];simp only[kI] at*;refine M.F Tryz.func156 ?_;(repeat' first|refine M.w6 @hp @h1 @h2 @h3 @h4 @h5 ?_|refine M.c2 (hup) ?_|refine M.c2 (hou) ?_|refine M.c2 (hun) ?_|fail);all_goals first
    |rfl
    |trace_state
  .simp only[kI] at*;cases hh:GV u1 with
   |true=>
    rw[hh] at hu;rw[if_pos ko];refine M.F Tryz.func156 ?_;(repeat' first|refine M.w6 @hp @h1 @h2 @h3 @h4 @h5 ?_|refine M.c2 (hu) ?_|fail);all_goals first
     |rfl
     |trace_state
   |false=>
    rw[hh] at hu;rw[if_neg ko];refine M.F Tryz.func156 ?_;(repeat' first|refine M.w6 @hp @h1 @h2 @h3 @h4 @h5 ?_|refine M.c2 (hu) ?_|refine M.c2 (hup) ?_|refine M.c2 (hou) ?_|refine M.c2 (hun) ?_|fail);all_goals first
     |rfl
     |trace_state
 rw[decide_eq_true t0] at h5;by_cases n0:(y9 f1).2=0;case neg=>
  have ef:ul f1=(AK,(y9 f1).2):=by unfold ul;rw[if_neg t0,if_pos n0]
  rw[ef,if_pos n0];rcases hk with rfl|rfl;all_goals
   simp only[kI] at*;refine M.F Tryz.func156 ?_;(repeat' first|refine M.o6 @hp @h1 @h2 @h3 @h4 @h5 ?_|refine M.c2 (h6) ?_|refine M.z1 20 ?_|refine M.cs ?_ ?_<;>intro h|refine M.gk ?_|fail);all_goals first
    |rfl
    |(exfalso;simp at h;exact n0 h)
    |trace_state
 rw[n0] at h6;obtain⟨nk,ns,nz,no⟩:=Nb f1 n0 s1.1;have nfl:=K4 (y9 f1).1 ns;have h7:=Xg _ (y9 f1).1 0 (fB _) kn kn kn ns;by_cases n1:zq 0 (y9 f1).1=0;case neg=>
  have ef:ul f1=(AK,6):=by unfold ul;rw[if_neg t0,if_neg (by simp[n0]),if_pos n1]
  rw[ef,if_pos kq];rw[decide_eq_true n1] at h7;rcases hk with rfl|rfl;all_goals
   simp only[kI] at*;refine M.F Tryz.func156 ?_;(repeat' first|refine M.w6 @hp @h1 @h2 @h3 @h4 @h5 ?_|refine M.c2 (h6) ?_|refine M.c2 (h7) ?_|fail);all_goals first
    |rfl
    |trace_state
 case pos=>
  have ef:ul f1=((y9 f1).1,0):=by unfold ul;rw[if_neg t0,if_neg (by simp[n0]),if_neg (by simp[n1])]
  rw[ef];rw[decide_eq_false (by simp[n1])] at h7;have hup:=Gx (no _ hf1.2.1) ns kn (by simp[Ck.below,Ck.Ah];omega) 1 (-1) kn kn;rw[if_neg ko];rcases hk with rfl|rfl
  .rw[if_neg ko];simp only[kI] at*;refine M.F Tryz.func156 ?_;(repeat' first|refine M.w6 @hp @h1 @h2 @h3 @h4 @h5 ?_|refine M.c2 (h6) ?_|refine M.c2 (h7) ?_|refine M.c2 (hup) ?_|refine M.c2 (hou) ?_|refine M.c2 (hun) ?_|fail);all_goals first
    |rfl
    |trace_state
  .simp only[kI] at*;cases hh:GV u1 with
   |true=>
    rw[hh] at hu;rw[if_pos ko];refine M.F Tryz.func156 ?_;(repeat' first|refine M.w6 @hp @h1 @h2 @h3 @h4 @h5 ?_|refine M.c2 (h6) ?_|refine M.c2 (h7) ?_|refine M.c2 (hu) ?_|fail);all_goals first
     |rfl
     |trace_state
   |false=>
    rw[hh] at hu;rw[if_neg ko];refine M.F Tryz.func156 ?_;(repeat' first|refine M.w6 @hp @h1 @h2 @h3 @h4 @h5 ?_|refine M.c2 (h6) ?_|refine M.c2 (h7) ?_|refine M.c2 (hu) ?_|refine M.c2 (hup) ?_|refine M.c2 (hou) ?_|refine M.c2 (hun) ?_|fail);all_goals first
     |rfl
     |trace_state
end
section
variable {c:Ck}
theorem Yhg{s:Ty}{p:Pf}{r:Cj}(h1:PC E 153 [.agg c.view,.agg (Pf.mk 8 0 s [] [] [p]).view] (CX r)):PC E 101 [.agg c.view,.agg (Pf.mk 8 0 s [] [] [p]).view] (CX r):=by
 exact pY
theorem Yb0{s:Ty}{p:Pf}{r:Cj}(h1:PC E 153 [.agg c.view,.agg (Pf.mk 12 0 s [] [] [p]).view] (CX r)):PC E 101 [.agg c.view,.agg (Pf.mk 12 0 s [] [] [p]).view] (CX r):=by
 exact pY
theorem Ymt{t:Tm}{p:Pf}{r:Cj}(h1:PC E 154 [.agg c.view,.agg (Pf.mk 9 0 (.mk 0 []) [t] [] [p]).view] (CX r)):PC E 101 [.agg c.view,.agg (Pf.mk 9 0 (.mk 0 []) [t] [] [p]).view] (CX r):=by
 exact pY
theorem Yiy{t:Tm}{p:Pf}{r:Cj}(h1:PC E 154 [.agg c.view,.agg (Pf.mk 13 0 (.mk 0 []) [t] [] [p]).view] (CX r)):PC E 101 [.agg c.view,.agg (Pf.mk 13 0 (.mk 0 []) [t] [] [p]).view] (CX r):=by
 exact pY
theorem Ygk{t:Tm}{f:Fm}{p:Pf}{r:Cj}(h1:PC E 155 [.agg c.view,.agg (Pf.mk 10 0 (.mk 0 []) [t] [f] [p]).view] (CX r)):PC E 101 [.agg c.view,.agg (Pf.mk 10 0 (.mk 0 []) [t] [f] [p]).view] (CX r):=by
 exact pY
theorem Yf4{t:Tm}{f:Fm}{p:Pf}{r:Cj}(h1:PC E 155 [.agg c.view,.agg (Pf.mk 14 0 (.mk 0 []) [t] [f] [p]).view] (CX r)):PC E 101 [.agg c.view,.agg (Pf.mk 14 0 (.mk 0 []) [t] [f] [p]).view] (CX r):=by
 exact pY
theorem Zx1{p q:Pf}{r:Cj}(h1:PC E 156 [.agg c.view,.agg (Pf.mk 11 0 (.mk 0 []) [] [] [p,q]).view] (CX r)):PC E 101 [.agg c.view,.agg (Pf.mk 11 0 (.mk 0 []) [] [] [p,q]).view] (CX r):=by
 exact pY
theorem Zxi{p q:Pf}{r:Cj}(h1:PC E 156 [.agg c.view,.agg (Pf.mk 15 0 (.mk 0 []) [] [] [p,q]).view] (CX r)):PC E 101 [.agg c.view,.agg (Pf.mk 15 0 (.mk 0 []) [] [] [p,q]).view] (CX r):=by
 exact pY
theorem Yba{t:Tm}{f:Fm}{p q:Pf}{r:Cj}(h1:PC E 157 [.agg c.view,.agg (Pf.mk 16 0 (.mk 0 []) [t] [f] [p,q]).view] (CX r)):PC E 101 [.agg c.view,.agg (Pf.mk 16 0 (.mk 0 []) [t] [f] [p,q]).view] (CX r):=by
 exact pY
theorem Zyb{t:Tm}{f:Fm}{p q:Pf}{r:Cj}(h1:PC E 158 [.agg c.view,.agg (Pf.mk 17 0 (.mk 0 []) [t] [f] [p,q]).view] (CX r)):PC E 101 [.agg c.view,.agg (Pf.mk 17 0 (.mk 0 []) [t] [f] [p,q]).view] (CX r):=by
 exact pY
theorem Ztx{f:Fm}{p q:Pf}{r:Cj}(h1:PC E 160 [.agg c.view,.agg (Pf.mk 19 0 (.mk 0 []) [] [f] [p,q]).view] (CX r)):PC E 101 [.agg c.view,.agg (Pf.mk 19 0 (.mk 0 []) [] [f] [p,q]).view] (CX r):=by
 exact pY
theorem Zri{p:Pf}{r:Cj}(h1:PC E 161 [.agg c.view,.agg (Pf.mk 20 0 (.mk 0 []) [] [] [p]).view] (CX r)):PC E 101 [.agg c.view,.agg (Pf.mk 20 0 (.mk 0 []) [] [] [p]).view] (CX r):=by
 exact pY
theorem Ygp{t:Tm}(hc:c.ok)(ht:t.full<=300000):PC E 101 [.agg c.view,.agg (Pf.mk 18 0 (.mk 0 []) [t] [] []).view] (CX (Io t c)):=by
 have h1:=JY t t kn kn;have h2:=Wk c t 1 kn (by have:=hc.sum;omega);unfold Io;refine M.F Tryz.func101 ?_;refine M.v2 @h1 @h2 ?_
 rfl
end
def Pc(p:Pf):Prop:=∀c:Ck,c.ok->PC E 41 [.agg c.view,.agg p.view] (En (yr p c).1 (yr p c).2.1 (yr p c).2.2)
theorem Zqh{p:Pf}(h:p.small=true):(∀t∈p.terms,t.size<=4096)/\(∀f∈p.Ae,f.size<=4096)/\∀x∈p.args,x.small=true:=by
 rw[p.CE] at h;simp only[fD,fF,decide_eq_true_eq] at h;exact⟨h.1.1,h.1.2,h.2⟩
theorem Zxu{p:Pf}{c:Ck}(hc:c.ok)(hr:Ft c (JC p.kind p.index p.ty p.terms p.Ae (p.args.map yr) c))
 (hrl:PC E 101 [.agg c.view,.agg p.view] (CX (JC p.kind p.index p.ty p.terms p.Ae (p.args.map yr) c))):
 PC E 41 [.agg c.view,.agg p.view] (En (yr p c).1 (yr p c).2.1 (yr p c).2.2):=by
 rw[wu];generalize JC p.kind p.index p.ty p.terms p.Ae (p.args.map yr) c=r at*;obtain⟨f,u,e⟩:=r;unfold DH;by_cases he:e=0;case neg=>
  rw[if_pos he];refine M.F Tryz.func41 ?_;(repeat' first|refine M.o1 @hrl ?_|refine M.z1 4 ?_|refine M.cs ?_ ?_<;>intro h|refine M.gk ?_|fail);all_goals first
   |rfl
   |(exfalso;simp at h;exact he h)
   |trace_state
 subst he;rw[if_neg ko];obtain⟨r1,r2,r3,r4⟩:=hr rfl;simp only at r1 r2;have hfl:=K4 f r1;have h1:=MU f kn;by_cases hf:f.err=0;case neg=>
  rw[if_pos hf];refine M.F Tryz.func41 ?_;(repeat' first|refine M.o2 @hrl @h1 ?_|refine M.z1 6 ?_|refine M.cs ?_ ?_<;>intro h|refine M.gk ?_|fail);all_goals first
   |rfl
   |(exfalso;simp at h;exact hf h)
   |trace_state
 rw[if_neg (by simp[hf])];have h2:=Zyc f hf;rw[hf] at h1;cases hcf:wi f with
 |true=>
  rw[hcf] at h2;rw[if_pos rfl];refine M.F Tryz.func41 ?_;refine M.w3 @hrl @h1 @h2 ?_;all_goals first
   |rfl
   |trace_state
 |false=>
  rw[hcf] at h2;rw[if_neg ko];refine M.F Tryz.func41 ?_;refine M.w3 @hrl @h1 @h2 ?_;all_goals first
   |rfl
   |trace_state
theorem Yg4{t:Tm}(hs:t.shape=true)(hz:t.size<=4096):t.full<=300000:=by have:=OA t hs;omega
theorem Yi0{f:Fm}(hs:f.shape=true)(hz:f.size<=4096):f.full<=300000:=by have:=K4 f hs;omega
theorem Ygz(p:Pf):p.shape=true->p.small=true->Pc p:=by
 induction p using Pf.ind with
 |h p ih=>
  intro hs hm c hc;refine Zxu hc (Yhf hs hc) ?_;obtain⟨h1,h2,h3,h4⟩:=zh hs;obtain⟨m1,m2,m3⟩:=Zqh hm;obtain⟨nd,n1,n2,n3,n4,n5,n6,n7,n8,n9⟩:=T9 hs;have hA:∀a∈p.args,Pc a/\BP (yr a):=fun a ha=>⟨ih a ha (h4 a ha) (m3 a ha),Kb a (h4 a ha)⟩;have hT:∀t∈p.terms,t.full<=300000:=fun t ht=>Yg4 (h2 t ht) (m1 t ht);have hF:∀f∈p.Ae,f.full<=300000:=fun f hf=>Yi0 (h3 f hf) (m2 f hf);have hS:∀f∈p.Ae,f.shape=true:=h3;have hk:p.kind=1\/p.kind=2\/p.kind=3\/p.kind=4\/p.kind=5\/p.kind=6\/p.kind=7\/p.kind=8\/p.kind=9\/p.kind=10\/p.kind=11\/p.kind=12\/p.kind=13\/p.kind=14\/p.kind=15\/p.kind=16\/p.kind=17\/p.kind=18\/p.kind=19\/p.kind=20:=kn
  clear ih hs hm h1 h2 h3 h4 m1 m2 m3 n9;obtain⟨k,i,s,ts,fs,zs⟩:=p;simp only[Pf.kind,Pf.index,Pf.ty,Pf.terms,Pf.Ae,Pf.args] at*;have hroom:c.tys.length+1<=16->∀s:Ty,s.err=0->(c.below [s]).ok:=fun h s hs=>hc.below (l:=[s]) h (by simpa using hs);rcases hk with rfl|rfl|rfl|rfl|rfl|rfl|rfl|rfl|rfl|rfl|rfl|rfl|rfl|rfl|rfl|rfl|rfl|rfl|rfl|rfl;all_goals(simp only[B6,reduceIte,Int.reduceEq,or_false,false_or,or_true,true_or,fI] at n1)
  all_goals(subst n1)
  all_goals(simp only[forall_const,reduceCtorEq,false_implies,Bool.true_eq_false,jE] at n2 n3 n4 n6 n7 n8)
  all_goals(first|(obtain rfl:=Wc n2)|(obtain⟨t,rfl⟩:=Py n2))
  all_goals(first|(obtain rfl:=Wc n3)|(obtain⟨f,rfl⟩:=Py n3))
  all_goals(first|(obtain rfl:=Wc n4)|(obtain⟨a,rfl⟩:=Py n4)|(obtain⟨a,b,rfl⟩:=dz n4))
  all_goals(try subst n6)
  all_goals(try subst n8)
  .exact Ylz hc i n5
  .exact Yns hc i n5
  .exact Yno hc ((hA a ko).1 c hc) ((hA b ko).1 c hc) ((hA a ko).2 c hc) ((hA b ko).2 c hc)
  .exact bT hc 0 kn ((hA a ko).1 c hc) ((hA a ko).2 c hc)
  .exact bT hc 1 kn ((hA a ko).1 c hc) ((hA a ko).2 c hc)
  .exact Yfo hc (hF f ko) (fun t0 r0=>(hA a ko).1 _ (hc.Ah (xw r0).2 (we t0).1 (we t0).2))
    (fun t0 r0=>by
     have ho:=hc.Ah (xw r0).2 (we t0).1 (we t0).2;exact(Ij ho ((hA a ko).2 _ ho)).1)
  .exact Ygm hc ((hA a ko).1 c hc) ((hA b ko).1 c hc) ((hA a ko).2 c hc) ((hA b ko).2 c hc)
  .exact Yhg (bh hc (.inl rfl) n7 (fun r0=>(hA a ko).1 _ (hroom (xw r0).1 s n7)) (fun r0=>Ij (hroom (xw r0).1 s n7) ((hA a ko).2 _ (hroom (xw r0).1 s n7))))
  .exact Ymt (Xv hc (.inl rfl) (hT t ko) ((hA a ko).1 c hc) ((hA a ko).2 c hc))
  .exact Ygk (YN (r0:=yr a) hc (.inl rfl) (hF f ko) (hT t ko) (LU hc (by have:=cP f;have:=hF f ko;omega) (hT t ko) ((hA a ko).1 c hc) ((hA a ko).2 c hc)) (uz (hA a ko).2 hc _ _))
  .exact Zx1 (ZE (r0:=yr a) (r1:=yr b) hc (.inl rfl) rfl rfl ((hA a ko).1 c hc) ((hA a ko).2 c hc) (fun h=>(hA b ko).1 _ h) (fun h=>(hA b ko).2 _ h))
  .exact Yb0 (bh hc (.inr rfl) n7 (fun r0=>(hA a ko).1 _ (hroom (xw r0).1 s n7)) (fun r0=>Ij (hroom (xw r0).1 s n7) ((hA a ko).2 _ (hroom (xw r0).1 s n7))))
  .exact Yiy (Xv hc (.inr rfl) (hT t ko) ((hA a ko).1 c hc) ((hA a ko).2 c hc))
  .exact Yf4 (YN (r0:=yr a) hc (.inr rfl) (hF f ko) (hT t ko) (LU hc (by have:=cP f;have:=hF f ko;omega) (hT t ko) ((hA a ko).1 c hc) ((hA a ko).2 c hc)) (uz (hA a ko).2 hc _ _))
  .exact Zxi (ZE (r0:=yr a) (r1:=yr b) hc (.inr rfl) rfl rfl ((hA a ko).1 c hc) ((hA a ko).2 c hc) (fun h=>(hA b ko).1 _ h) (fun h=>(hA b ko).2 _ h))
  .have hff:=hF f ko;exact Yba (Yov (r0:=yr a) (r1:=yr b) hc hff (hT t ko) (LU hc kn kq ((hA a ko).1 c hc) ((hA a ko).2 c hc))
    (fun h=>LU h (by have:=(yt (hS f ko) (fr:=1) (by_:=1) kn).2.2;omega) kq ((hA b ko).1 _ h) ((hA b ko).2 _ h))
    (uz (hA a ko).2 hc _ _) (fun h=>by have:=uz (hA b ko).2 h (f.As 1 1) (sT (vT 0));simpa[Ck.below,Ck.Ah] using this))
  .have hff:=hF f ko;exact Zyb (Ymr (r0:=yr a) (r1:=yr b) hc hff (hT t ko) (LU hc kn kq ((hA a ko).1 c hc) ((hA a ko).2 c hc))
    (fun h=>LU h (by have:=(yt (hS f ko) (fr:=1) (by_:=2) kn).2.2;omega) kq ((hA b ko).1 _ h) ((hA b ko).2 _ h))
    (uz (hA a ko).2 hc _ _) (fun h=>by have:=uz (hA b ko).2 h (f.As 1 2) BJ;simpa[Ck.below,Ck.Ah] using this))
  .exact Ygp hc (hT t ko)
  .exact Ztx (Yfm (r0:=yr a) (r1:=yr b) hc rfl (hF f ko) ((hA a ko).1 c hc) ((hA a ko).2 c hc) (fun t ht=>LU hc (by have:=hF f ko;omega) ht ((hA b ko).1 c hc) ((hA b ko).2 c hc)))
  .exact Zri (Ybm (r0:=yr a) hc rfl ((hA a ko).1 c hc) ((hA a ko).2 c hc))
end Go.Ab
