/- A part of this seat's proofs. No conditions. -/
import Derived.Test.YtknjfffhfolkcaaGreatDoorHS9
namespace Go.Ab
open Go Go.Proofs
set_option maxRecDepth 100000
set_option maxHeartbeats 4000000
set_option linter.all false
theorem M6:∀(n:Nat) (p:Pf),p.full<=n->n<549755813888->PC E 124 [.agg p.view] (.i p.size):=by
 intro n;induction n with
 |zero=>intro p h;have:=p.Aa;omega
 |succ n ih=>
 intro p hsz hn;have hsz':=p.Af;have hse:=p.size_eq;have hlen:=zd Pf.full Pf.Aa p.args;have hlen1:=zd Fm.full Fm.Aa p.Ac;have hlen2:=zd Tm.full Tm.Aa p.terms;have hle0:=yw (f:=Tm.size) (g:=Tm.full) p.terms fun x _=>x.Aj;have hle1:=yw (f:=Fm.size) (g:=Fm.full) p.Ac fun x _=>x.Aj;have hle2:=yw (f:=Pf.size) (g:=Pf.full) p.args fun x _=>x.Aj;refine M.F Tryz.func124 ?_;(repeat' first|refine M.gw ?_|fail);refine AW.range p.terms.length (fun m=>True)
  (fun m=>([(1,.ptr 0 0),(3,.i (1+((p.terms.take m).map Tm.size).sum:Nat)),(11,.s .tm p.terms),(12,.i p.terms.length),(13,.i m)],⟨1,[(0,.var p.view)]⟩))
  (by omega) (fun m=>rfl) (fun m=>rfl) rfl trivial (M.W [some 0]) ?_ ?_
 .intro m hm _;have hs1:=yk Tm.size p.terms m hm;have hs2:=za Tm.full (Wi hm);have hs3:=zm Tm.size p.terms (m+1);have hc:=yl _ p.terms[m] (Wj _) (by omega);(repeat' first|refine M.gw ?_|refine M.c2 (hc) ?_|fail);refine⟨rfl,trivial,?_⟩;simp only[hs1];exact(M.W [some 0] (hf:=(by(repeat'(first|exact trivial|refine And.intro ?_ ?_|refine⟨_,U,_,U,?_⟩|exact Ao.refl _|exact Ao.of_eq (by simp[Aq.Ay,W5,Xy])));done)))
 .intro _;simp only[Wp];(repeat' first|refine M.gw ?_|fail);refine AW.range p.Ac.length (fun m=>True)
   (fun m=>([(1,.ptr 0 0),(3,.i (1+(p.terms.map Tm.size).sum+((p.Ac.take m).map Fm.size).sum:Nat)),(23,.s .fm p.Ac),(24,.i p.Ac.length),(25,.i m)],⟨1,[(0,.var p.view)]⟩))
   (by omega) (fun m=>rfl) (fun m=>rfl) rfl trivial (M.W [some 0]) ?_ ?_
  .intro m hm _;have hs1:=yk Fm.size p.Ac m hm;have hs2:=za Fm.full (Wi hm);have hs3:=zm Fm.size p.Ac (m+1);have hc:=JY _ p.Ac[m] (Wj _) (by omega);(repeat' first|refine M.gw ?_|refine M.c2 (hc) ?_|fail);refine⟨rfl,trivial,?_⟩;simp only[hs1];exact(M.W [some 0] (hf:=(by(repeat'(first|exact trivial|refine And.intro ?_ ?_|refine⟨_,U,_,U,?_⟩|exact Ao.refl _|exact Ao.of_eq (by simp[Aq.Ay,W5,Xy])));done)))
  .intro _;simp only[Wp];(repeat' first|refine M.gw ?_|fail);refine AW.range p.args.length (fun m=>True)
    (fun m=>([(1,.ptr 0 0),(3,.i (1+(p.terms.map Tm.size).sum+(p.Ac.map Fm.size).sum+((p.args.take m).map Pf.size).sum:Nat)),(35,.s .pf p.args),(36,.i p.args.length),(37,.i m)],⟨1,[(0,.var p.view)]⟩))
    (by omega) (fun m=>rfl) (fun m=>rfl) rfl trivial (M.W [some 0]) ?_ ?_
   .intro m hm _;have hs1:=yk Pf.size p.args m hm;have hs2:=za Pf.full (Wi hm);have hs3:=zm Pf.size p.args (m+1);have hc:=ih p.args[m] (by omega) (by omega);(repeat' first|refine M.gw ?_|refine M.c2 (hc) ?_|fail);refine⟨rfl,trivial,?_⟩;simp only[hs1];exact(M.W [some 0] (hf:=(by(repeat'(first|exact trivial|refine And.intro ?_ ?_|refine⟨_,U,_,U,?_⟩|exact Ao.refl _|exact Ao.of_eq (by simp[Aq.Ay,W5,Xy])));done)))
   .intro _;simp only[Wp];(repeat' first|refine M.gw ?_|fail);rw[hse]
    rfl
theorem Zwi:∀(n:Nat) (p:Pf),p.full<=n->n<549755813888->PC E 123 [.agg p.view] (.bool p.small):=by
 intro n;induction n with
 |zero=>intro p h;have:=p.Aa;omega
 |succ n ih=>
 intro p hsz hn;have hsz':=p.Af;have hse:=p.BT;have hlen:=zd Pf.full Pf.Aa p.args;have hlen1:=zd Fm.full Fm.Aa p.Ac;have hlen2:=zd Tm.full Tm.Aa p.terms;refine M.F Tryz.func123 ?_;(repeat' first|refine M.gw ?_|fail);refine AW.range p.terms.length (fun m=>∀j (hj:j<p.terms.length),j<m->decide (p.terms[j].size<=4096)=true)
  (fun m=>([(1,.ptr 0 0),(10,.s .tm p.terms),(11,.i p.terms.length),(12,.i m)],⟨1,[(0,.var p.view)]⟩))
  (by omega) (fun m=>rfl) (fun m=>rfl) rfl (fun j hj h=>by omega) (M.W [some 0]) ?_ ?_
 .intro m hm hP;have hs2:=za Tm.full (Wi hm);have hc:=yl _ p.terms[m] (Wj _) (by omega);have hle:=p.terms[m].Aj;(repeat' first|refine M.gw ?_|refine M.c2 (hc) ?_|refine M.cs ?_ ?_<;>intro h|fail)
  .have e:p.small=false:=by
    rw[hse,xn (fun t:Tm=>decide (t.size<=4096)) hm (by simp at h ⊢;omega)];rfl
   rw[e];rfl
  .exact ⟨rfl,ya (p:=fun t:Tm=>decide (t.size<=4096)=true) hm hP (by simp at h ⊢;omega),(M.W [some 0])⟩
 .intro hP;have a1:=w4 (fun t:Tm=>decide (t.size<=4096)) p.terms fun j hj=>hP j hj hj;rw[a1,WZ] at hse;(repeat' first|refine M.gw ?_|fail);refine AW.range p.Ac.length (fun m=>∀j (hj:j<p.Ac.length),j<m->decide (p.Ac[j].size<=4096)=true)
   (fun m=>([(1,.ptr 0 0),(21,.s .fm p.Ac),(22,.i p.Ac.length),(23,.i m)],⟨1,[(0,.var p.view)]⟩))
   (by omega) (fun m=>rfl) (fun m=>rfl) rfl (fun j hj h=>by omega) (M.W [some 0]) ?_ ?_
  .intro m hm hP;have hs2:=za Fm.full (Wi hm);have hc:=JY _ p.Ac[m] (Wj _) (by omega);have hle:=p.Ac[m].Aj;(repeat' first|refine M.gw ?_|refine M.c2 (hc) ?_|refine M.cs ?_ ?_<;>intro h|fail)
   .have e:p.small=false:=by
     rw[hse,xn (fun t:Fm=>decide (t.size<=4096)) hm (by simp at h ⊢;omega)];rfl
    rw[e];rfl
   .exact ⟨rfl,ya (p:=fun t:Fm=>decide (t.size<=4096)=true) hm hP (by simp at h ⊢;omega),(M.W [some 0])⟩
  .intro hP;have a1:=w4 (fun t:Fm=>decide (t.size<=4096)) p.Ac fun j hj=>hP j hj hj;rw[a1,WZ] at hse;(repeat' first|refine M.gw ?_|fail);refine AW.range p.args.length (fun m=>∀j (hj:j<p.args.length),j<m->p.args[j].small=true)
    (fun m=>([(1,.ptr 0 0),(32,.s .pf p.args),(33,.i p.args.length),(34,.i m)],⟨1,[(0,.var p.view)]⟩))
    (by omega) (fun m=>rfl) (fun m=>rfl) rfl (fun j hj h=>by omega) (M.W [some 0]) ?_ ?_
   .intro m hm hP;have hs2:=za Pf.full (Wi hm);have hc:=ih p.args[m] (by omega) (by omega);cases hb:p.args[m].small with
    |false=>
     rw[hb] at hc;have e:p.small=false:=by rw[hse,xn Pf.small hm hb]
     rw[e];(repeat' first|refine M.gw ?_|refine M.c2 (hc) ?_|fail)
     rfl
    |true=>
     rw[hb] at hc;(repeat' first|refine M.gw ?_|refine M.c2 (hc) ?_|fail);exact⟨rfl,ya (p:=fun t:Pf=>t.small=true) hm hP hb,(M.W [some 0])⟩
   .intro hP;have e:p.small=true:=by rw[hse];exact w4 Pf.small p.args fun j hj=>hP j hj hj
    rw[e];(repeat' first|refine M.gw ?_|fail)
    rfl
theorem L1(p:Pf)(hp:p.full<549755813888):PC E 91 [.agg p.view] (.bool (p.small&&decide (p.size<=16384))):=by
 have h1:=Zwi _ p (Wj _) hp;have h2:=M6 _ p (Wj _) hp;have h3:=p.Aj;cases hs:p.small with
 |false=>
  rw[hs] at h1;refine M.F Tryz.func91 ?_;(repeat' first|refine M.gw ?_|refine M.c2 (h1) ?_|fail)
  rfl
 |true=>
  rw[hs] at h1;have e:decide (((p.size:Nat):Int)<=16384)=decide (p.size<=16384):=by rw[decide_eq_decide];omega
  refine M.F Tryz.func91 ?_;(repeat' first|refine M.gw ?_|refine M.c2 (h1) ?_|refine M.c2 (h2) ?_|fail);simp[zk,V.wk,V.Ap,zc,e]
theorem Zz7(k:Int):PC E 118 [.i k] (.AD [.agg ((BD k).getD OW).view,.bool (BD k).isSome]):=by
 by_cases hk:1<=k/\k<=20
 .have:k=1\/k=2\/k=3\/k=4\/k=5\/k=6\/k=7\/k=8\/k=9\/k=10\/k=11\/k=12\/k=13\/k=14\/k=15\/k=16\/k=17\/k=18\/k=19\/k=20:=by omega
  rcases this with rfl|rfl|rfl|rfl|rfl|rfl|rfl|rfl|rfl|rfl|rfl|rfl|rfl|rfl|rfl|rfl|rfl|rfl|rfl|rfl;all_goals(refine M.F Tryz.func118 ?_)
  all_goals(repeat'(first|refine M.gw ?_|refine M.bl ?_|fail))
  all_goals rfl
 .have e:BD k=none:=by
   unfold BD
   repeat rw[if_neg (by omega)]
  rw[e];have b:∀j:Int,1<=j->j<=20->¬(k==j)=true:=fun j h1 h2 h=>by simp at h;omega
  have b1:=b 1 (by omega) (by omega);have b2:=b 2 (by omega) (by omega);have b3:=b 3 (by omega) (by omega);have b4:=b 4 (by omega) (by omega);have b5:=b 5 (by omega) (by omega);have b6:=b 6 (by omega) (by omega);have b7:=b 7 (by omega) (by omega);have b8:=b 8 (by omega) (by omega);have b9:=b 9 (by omega) (by omega);have b10:=b 10 (by omega) (by omega);have b11:=b 11 (by omega) (by omega);have b12:=b 12 (by omega) (by omega);have b13:=b 13 (by omega) (by omega);have b14:=b 14 (by omega) (by omega);have b15:=b 15 (by omega) (by omega);have b16:=b 16 (by omega) (by omega);have b17:=b 17 (by omega) (by omega);have b18:=b 18 (by omega) (by omega);have b19:=b 19 (by omega) (by omega);have b20:=b 20 (by omega) (by omega);refine M.F Tryz.func118 ?_;(repeat' first|refine M.gw ?_|refine M.bl ?_|refine M.cs ?_ ?_<;>intro h|fail);all_goals first
   |contradiction
   |rfl
theorem Zwz:∀(n:Nat) (p:Pf),p.full<=n->n<549755813888->PC E 90 [.agg p.view] (.bool p.shape):=by
 intro n;induction n with
 |zero=>intro p h;have:=p.Aa;omega
 |succ n ih=>
 intro p hsz hn;have hsz':=p.Af;have hse:=p.Al;have hlen:=zd Pf.full Pf.Aa p.args;have hlen1:=zd Fm.full Fm.Aa p.Ac;have hlen2:=zd Tm.full Tm.Aa p.terms;have h1:=Zz7 p.kind;cases hnd:BD p.kind with
 |none=>
  have e:p.shape=false:=by rw[hse];simp[Pf.head,hnd]
  rw[hnd] at h1;rw[e];refine M.F Tryz.func90 ?_;(repeat' first|refine M.gw ?_|refine M.c2 (h1) ?_|fail)
  rfl
 |some nd=>
 rw[hnd] at h1;simp only[XA,Xf] at h1;have h3:=Qx p.ty;have h4:=u9 p.ty (by omega);have hok:=Qi p.ty;refine M.F Tryz.func90 ?_;(repeat' first|refine M.gw ?_|refine M.c2 (h1) ?_|refine M.c2 (h3) ?_|refine M.c2 (h4) ?_|refine M.gs ?_ ?_<;>intro h|refine M.cs ?_ ?_<;>intro h|fail);all_goals first
  |(have hd:p.head=false:=by(simp only[Pf.head,hnd];simp_all;done)
    have:p.shape=false:=by rw[hse,hd];rfl
    simp[this,zk,zc,V.wk,V.Ap];done)
  |(have hd:p.head=false:=by(simp only[Pf.head,hnd];simp_all;omega)
    have:p.shape=false:=by rw[hse,hd];rfl
    simp[this,zk,zc,V.wk,V.Ap];done)
  |(have hd:p.head=true:=by(simp only[Pf.head,hnd];simp_all;try omega)
    rw[hd,WZ] at hse;refine AW.range p.terms.length (fun m=>∀j (hj:j<p.terms.length),j<m->p.terms[j].shape=true)
     (fun m=>([(1,.ptr 0 0),(78,.s .tm p.terms),(79,.i p.terms.length),(80,.i m)],⟨2,[(0,.var p.view),(1,.var nd.view)]⟩))
     (by omega) (fun m=>rfl) (fun m=>rfl) rfl (fun j hj h=>by omega) (M.W [some 0,some 1]) ?_ ?_
    .intro m hm hP;have hs2:=za Tm.full (Wi hm);have hc:=QE _ p.terms[m] (Wj _) (by omega);cases hb:p.terms[m].shape with
     |false=>
      rw[hb] at hc;have e:p.shape=false:=by rw[hse,xn Tm.shape hm hb];rfl
      rw[e];(repeat' first|refine M.gw ?_|refine M.c2 (hc) ?_|fail)
      rfl
     |true=>
      rw[hb] at hc;(repeat' first|refine M.gw ?_|refine M.c2 (hc) ?_|fail);exact⟨rfl,ya (p:=fun t:Tm=>t.shape=true) hm hP hb,(M.W [some 0,some 1])⟩
    .intro hP;have a1:=w4 Tm.shape p.terms fun j hj=>hP j hj hj;rw[a1,WZ] at hse;(repeat' first|refine M.gw ?_|fail);refine AW.range p.Ac.length (fun m=>∀j (hj:j<p.Ac.length),j<m->p.Ac[j].shape=true)
      (fun m=>([(1,.ptr 0 0),(89,.s .fm p.Ac),(90,.i p.Ac.length),(91,.i m)],⟨2,[(0,.var p.view),(1,.var nd.view)]⟩))
      (by omega) (fun m=>rfl) (fun m=>rfl) rfl (fun j hj h=>by omega) (M.W [some 0,some 1]) ?_ ?_
     .intro m hm hP;have hs2:=za Fm.full (Wi hm);have hc:=RA _ p.Ac[m] (Wj _) (by omega);cases hb:p.Ac[m].shape with
      |false=>
       rw[hb] at hc;have e:p.shape=false:=by rw[hse,xn Fm.shape hm hb];rfl
       rw[e];(repeat' first|refine M.gw ?_|refine M.c2 (hc) ?_|fail)
       rfl
      |true=>
       rw[hb] at hc;(repeat' first|refine M.gw ?_|refine M.c2 (hc) ?_|fail);exact⟨rfl,ya (p:=fun t:Fm=>t.shape=true) hm hP hb,(M.W [some 0,some 1])⟩
     .intro hP;have a1:=w4 Fm.shape p.Ac fun j hj=>hP j hj hj;rw[a1,WZ] at hse;(repeat' first|refine M.gw ?_|fail);refine AW.range p.args.length (fun m=>∀j (hj:j<p.args.length),j<m->p.args[j].shape=true)
       (fun m=>([(1,.ptr 0 0),(100,.s .pf p.args),(101,.i p.args.length),(102,.i m)],⟨2,[(0,.var p.view),(1,.var nd.view)]⟩))
       (by omega) (fun m=>rfl) (fun m=>rfl) rfl (fun j hj h=>by omega) (M.W [some 0,some 1]) ?_ ?_
      .intro m hm hP;have hs2:=za Pf.full (Wi hm);have hc:=ih p.args[m] (by omega) (by omega);cases hb:p.args[m].shape with
       |false=>
        rw[hb] at hc;have e:p.shape=false:=by rw[hse,xn Pf.shape hm hb]
        rw[e];(repeat' first|refine M.gw ?_|refine M.c2 (hc) ?_|fail)
        rfl
       |true=>
        rw[hb] at hc;(repeat' first|refine M.gw ?_|refine M.c2 (hc) ?_|fail);exact⟨rfl,ya (p:=fun t:Pf=>t.shape=true) hm hP hb,(M.W [some 0,some 1])⟩
      .intro hP;have e:p.shape=true:=by rw[hse];exact w4 Pf.shape p.args fun j hj=>hP j hj hj
       rw[e];(repeat' first|refine M.gw ?_|fail)
       rfl)
theorem v7(p:Pf)(hp:p.full<549755813888):PC E 53 [.agg p.view] (.i p.err):=by
 have h1:=Zwz _ p (Wj _) hp;have h2:=L1 p hp;cases hs:p.shape with
 |false=>
  have e:p.err=2:=by simp[Pf.err,hs]
  rw[hs] at h1;rw[e];refine M.F Tryz.func53 ?_;(repeat' first|refine M.gw ?_|refine M.c2 (h1) ?_|fail)
  rfl
 |true=>
  rw[hs] at h1;cases hf:p.small&&decide (p.size<=16384) with
  |false=>
   have e:p.err=4:=by
    simp only[Pf.err,hs];rw[if_neg (by simp),if_pos];cases hm:p.small with
    |false=>exact .inl rfl
    |true=>rw[hm] at hf;simp at hf;exact .inr hf
   rw[hf] at h2;rw[e];refine M.F Tryz.func53 ?_;(repeat' first|refine M.gw ?_|refine M.c2 (h1) ?_|refine M.c2 (h2) ?_|fail)
   rfl
  |true=>
   have e:p.err=0:=by simp at hf;exact(Pf.Ad p).2 ⟨hs,hf.1,hf.2⟩
   rw[hf] at h2;rw[e];refine M.F Tryz.func53 ?_;(repeat' first|refine M.gw ?_|refine M.c2 (h1) ?_|refine M.c2 (h2) ?_|fail)
   rfl
theorem VM(f g:Fm)(hf:f.full<274877906944)(hg:g.full<274877906944):PC E 143 [.agg f.view,.agg g.view] (.i (Nk f g)):=by
 have h1:=JT f (by omega);have h2:=JT g (by omega);unfold Nk;by_cases ef:f.err=0;case neg=>
  rw[if_pos ef];refine M.F Tryz.func143 ?_;(repeat' first|refine M.gw ?_|refine M.c2 (h1) ?_|refine M.cs ?_ ?_<;>intro h|fail);all_goals first
   |rfl
   |(exfalso;simp at h;exact ef h)
 rw[ef] at h1;rw[if_neg (by simp[ef])];by_cases eg:g.err=0;case neg=>
  rw[if_pos eg];refine M.F Tryz.func143 ?_;(repeat' first|refine M.gw ?_|refine M.c2 (h1) ?_|refine M.c2 (h2) ?_|refine M.cs ?_ ?_<;>intro h|fail);all_goals first
   |rfl
   |(exfalso;simp at h;exact eg h)
 rw[eg] at h2;rw[if_neg (by simp[eg])];have h3:=Zvv _ f g (Wj _) hf hg ((Fm.Ad f).1 ef).1 ((Fm.Ad g).1 eg).1;refine M.F Tryz.func143 ?_;(repeat' first|refine M.gw ?_|refine M.c2 (h1) ?_|refine M.c2 (h2) ?_|refine M.c2 (h3) ?_|fail)
 rfl
theorem Yar(a b:Tm):PC E 154 [.agg (Bf a b).view] (.bool false):=by
 unfold Bf;refine M.F Tryz.func154 ?_;(repeat' first|refine M.gw ?_|refine M.bl ?_|fail)
 rfl
theorem N7(at_:Int)(s:Tm)(hat:0<=at_/\at_<137438953472)(hs:s.shape=true)(hsf:s.full<137438953472)(hsi:∀p∈s.vars 0,0<=p.1/\p.1<274877906944):∀(n:Nat) (f:Fm) (dp:Int),f.full<=n->n<137438953472->0<=dp->dp+n<274877906944->f.shape=true->(∀p∈f.AZ 0,∀q∈p.1.vars 0,0<=q.1/\q.1<274877906944)->
 PC E 242 [.agg f.view,.i at_,.i dp,.agg s.view] (.agg (f.re (fun b t=>t.re (y9 at_ s) b) dp).view):=by
 intro n;induction n with
 |zero=>intro f dp h;have:=f.Aa;omega
 |succ n ih=>
 intro f dp hsz hn h1 h2 hf hix;have hsz':=f.Af;have hlen:=zd Fm.full Fm.Aa f.args;have hlen2:=zd Tm.full Tm.Aa f.terms;have hup:=JL f.kind dp;have hpl:=MX f.kind dp;have hb:=MH f;have he:=Fm.Bt (fun b t=>t.re (y9 at_ s) b) dp f;have htm:=f.Ba 0;refine M.F Tryz.func242 ?_;(repeat' first|refine M.gw ?_|fail);refine AW.range f.terms.length (fun m=>True) (fun m=>([(1,.i at_),(2,.i dp),(4,.ptr 0 0),(7,.ptr 1 0),(8,.ptr 2 0),(9,.ptr 3 0),(20,.s .tm f.terms),(21,.i f.terms.length),(22,.i m)],⟨5,[(0,.var f.view),(1,.var s.view),(2,.var [.i 0,.i 0,.slice .nil (.t .ty []),.slice .nil (.t .tm []),.slice .nil (.t .fm [])]),(3,.var [.i f.kind,.i f.ty.kind,.s .ty f.ty.args,.slice (.own 4) (.t .tm ((f.terms.take m).map fun t=>t.re (y9 at_ s) dp)),.slice .nil (.t .fm [])]),(4,.row)]⟩))
  (by omega) (fun m=>rfl) (fun m=>rfl) rfl trivial (M.W [some 0,some 1,some 2,some 3,none]) ?_ ?_
 .intro m hm _;have hs2:=za Tm.full (Wi hm);have hc:=P7 at_ s hat hs hsf hsi _ f.terms[m] dp (Wj _) (by omega) (by omega) (by omega) (yg hf (Wi hm)) (fun p hp=>hix (f.terms[m],0) (by rw[htm];exact XB _ (WA.2 ⟨_,Wi hm,rfl⟩)) p hp);(repeat' first|refine M.gw ?_|refine M.c2 (hc) ?_|fail);exact⟨rfl,trivial,(M.W [some 0,some 1,some 2,some 3,some 6] (he:=(by(repeat'(first|exact trivial|exact Or.inr ⟨_,U,rfl⟩|refine And.intro ?_ ?_|refine⟨_,U,_,U,_,U,?_⟩|exact Ao.refl _|exact Ao.of_eq (by simp[Aq.Ay,zy _ _ _ hm])));done)))⟩
 .intro _;simp only[Wp];(repeat' first|refine M.gw ?_|fail);refine AW.range f.args.length (fun m=>True) (fun m=>([(1,.i at_),(2,.i dp),(4,.ptr 0 0),(7,.ptr 1 0),(8,.ptr 2 0),(9,.ptr 3 0),(38,.s .fm f.args),(39,.i f.args.length),(40,.i m)],⟨6,[(0,.var f.view),(1,.var s.view),(2,.var [.i 0,.i 0,.slice .nil (.t .ty []),.slice .nil (.t .tm []),.slice .nil (.t .fm [])]),(3,.var [.i f.kind,.i f.ty.kind,.s .ty f.ty.args,.slice (.own 4) (.t .tm (f.terms.map fun t=>t.re (y9 at_ s) dp)),.slice (.own 5) (.t .fm ((f.args.take m).map fun x=>x.re (fun b t=>t.re (y9 at_ s) b) (A3 f.kind dp)))]),(4,.row),(5,.row)]⟩))
   (by omega) (fun m=>rfl) (fun m=>rfl) rfl trivial (M.W [some 0,some 1,some 2,some 3,some 4,none]) ?_ ?_
  .intro m hm _;have hs2:=za Fm.full (Wi hm);have hc:=ih f.args[m] (A3 f.kind dp) (by omega) (by omega) (by omega) (by omega) (zv hf (Wi hm)) (fun p hp q hq=>by
    obtain⟨p',hp',hpe⟩:=SH (b':=A3 f.kind 0) p hp;rw[<-hpe] at hq;exact hix p' (by rw[htm];exact W7 _ (WL.2 ⟨_,Wi hm,hp'⟩)) q hq)
   rw[<-hpl] at hc;simp only[<-hpl];(repeat' first|refine M.gw ?_|refine M.c2 (hb) ?_|refine M.c2 (hc) ?_|fail);exact⟨rfl,trivial,(M.W [some 0,some 1,some 2,some 3,some 4,some 7] (he:=(by(repeat'(first|exact trivial|exact Or.inr ⟨_,U,rfl⟩|refine And.intro ?_ ?_|refine⟨_,U,_,U,_,U,?_⟩|exact Ao.refl _|exact Ao.of_eq (by simp[Aq.Ay,zy _ _ _ hm])));done)))⟩
  .intro _;simp only[Wp];(repeat' first|refine M.gw ?_|fail);rw[he]
   rfl
theorem Ye2(f:Fm)(at_:Int)(s:Tm)(hf:f.full<549755813888)(hs:s.full<549755813888):PC E 217 [.agg f.view,.i at_,.agg s.view] (.AD [.agg (if y1 f at_ s=0 then f.put at_ s else A7).view,.i (y1 f at_ s)]):=by
 have h1:=JT f hf;have h2:=wx s (by omega);by_cases he:f.err=0;case neg=>
  have e:y1 f at_ s=f.err:=by simp only[y1];rw[if_pos he]
  rw[e,if_neg he];refine M.F Tryz.func217 ?_;(repeat' first|refine M.go ?_|refine M.c2 (h1) ?_|refine M.z1 4 ?_|refine M.cs ?_ ?_<;>intro h|refine M.gk ?_|fail);all_goals first
   |rfl
   |(exfalso;simp at h;exact he h)
 rw[he] at h1;by_cases ha:0<=at_/\at_<=4096;case neg=>
  have e:y1 f at_ s=1:=by simp only[y1];rw[if_neg (by simp[he]),if_pos ha]
  rw[e,if_neg (by decide)];refine M.F Tryz.func217 ?_;(repeat' first|refine M.go ?_|refine M.c2 (h1) ?_|refine M.gs ?_ ?_<;>intro h|refine M.z1 6 ?_|refine M.cs ?_ ?_<;>intro h|refine M.gk ?_|fail);all_goals first
   |rfl
   |(exfalso;simp at h;omega)
   |(exfalso;simp at*;omega)
 by_cases hse:s.err=0;case neg=>
  have e:y1 f at_ s=s.err:=by simp only[y1];rw[if_neg (by simp[he]),if_neg (by simp;omega),if_pos hse]
  rw[e,if_neg hse];refine M.F Tryz.func217 ?_;(repeat' first|refine M.go ?_|refine M.c2 (h1) ?_|refine M.c2 (h2) ?_|refine M.gs ?_ ?_<;>intro h|refine M.z2 5 9 ?_|refine M.cs ?_ ?_<;>intro h|refine M.gk ?_|fail);all_goals first
   |rfl
   |(exfalso;simp at h;omega)
   |(exfalso;simp at*;omega)
   |(exfalso;simp at h;exact hse h)
 rw[hse] at h2;obtain⟨hfs,hfz⟩:=(Fm.Ad f).1 he;obtain⟨hss,hsz⟩:=vb hse;have hff:=ye he;have hsf:=z6 hse;have h3:=UG 536870912 (by omega) _ f (Wj _) (by omega) hfs;have h4:=KA 536870912 (by omega) _ s (Wj _) (by omega) hss;rw[<-UD] at h3;rw[<-Mc] at h4;by_cases hn:f.near=true/\s.near=true;case neg=>
  have hn':f.near=false\/s.near=false:=by
   cases h5:f.near with
   |false=>exact .inl rfl
   |true=>cases h6:s.near with
    |false=>exact .inr rfl
    |true=>exact absurd ⟨h5,h6⟩ hn
  have e:y1 f at_ s=1:=by simp only[y1];rw[if_neg (by simp[he]),if_neg (by simp;omega),if_neg (by simp[hse]),if_pos hn']
  rw[e,if_neg (by decide)];cases h5:f.near with
  |false=>
   rw[h5] at h3;refine M.F Tryz.func217 ?_;(repeat' first|refine M.go ?_|refine M.c2 (h1) ?_|refine M.c2 (h2) ?_|refine M.c2 (h3) ?_|refine M.gs ?_ ?_<;>intro h|refine M.z1 5 ?_|refine M.cs ?_ ?_<;>intro h|refine M.gk ?_|fail);all_goals first
    |rfl
    |(exfalso;simp at h;omega)
    |(exfalso;simp at*;omega)
  |true=>
   have h6:s.near=false:=hn'.resolve_left (by simp[h5]);rw[h5] at h3;rw[h6] at h4;refine M.F Tryz.func217 ?_;(repeat' first|refine M.go ?_|refine M.c2 (h1) ?_|refine M.c2 (h2) ?_|refine M.c2 (h3) ?_|refine M.c2 (h4) ?_|refine M.gs ?_ ?_<;>intro h|refine M.z1 5 ?_|refine M.cs ?_ ?_<;>intro h|refine M.gk ?_|fail);all_goals first
    |rfl
    |(exfalso;simp at h;omega)
    |(exfalso;simp at*;omega)
 obtain⟨hn1,hn2⟩:=hn;rw[hn1] at h3;rw[hn2] at h4;have h5:=JY _ f (Wj _) (by omega);have h6:=Zwe _ f at_ (Wj _) (by omega) (by omega) (by omega) hfs;have h7:=yl _ s (Wj _) (by omega);have htl:=OA at_ f;have hsp:=s.size_pos;have hsl:=s.Aj;have hfl:=f.Aj;have hm:=V5 (y7 at_ f) (s.size-1) (by omega) (by omega);have hm': -9223372036854775808<=(y7 at_ f:Int)*(s.size-1)/\(y7 at_ f:Int)*(s.size-1)<=9223372036854775807:=by omega
 have ee:y1 f at_ s=if(f.size:Int)+y7 at_ f*(s.size-1)>4096 then 4 else 0:=by
  simp only[y1,y7];rw[if_neg (by simp[he]),if_neg (by simp;omega),if_neg (by simp[hse]),if_neg (by simp[hn1,hn2])]
  rfl
 have hput:f.put at_ s=f.re (fun b t=>t.re (y9 at_ s) b) 0:=Yet at_ s 0 f;have h8:=N7 at_ s (by omega) hss (by omega) (fun p hp=>⟨s.AE hss 0 p hp,by have:=OT hn2 p hp;omega⟩) _ f 0 (Wj _) (by omega) (by omega) (by omega) hfs (fun p hp q hq=>by have:=Rz he hn1 p hp q hq;have h9:=Wm.1 hn1 p hp;have:=OT h9 q hq;omega);rw[<-hput] at h8;by_cases hz:(f.size:Int)+y7 at_ f*(s.size-1)>4096
 .rw[if_pos hz] at ee;rw[ee,if_neg (by decide)];clear h8 hput;refine M.F Tryz.func217 ?_;(repeat' first|refine M.go ?_|refine M.c2 (h1) ?_|refine M.c2 (h2) ?_|refine M.c2 (h3) ?_|refine M.c2 (h4) ?_|refine M.c2 (h5) ?_|refine M.c2 (h6) ?_|refine M.c2 (h7) ?_|refine M.gs ?_ ?_<;>intro h|refine M.z2 5 13 ?_|refine M.cs ?_ ?_<;>intro h|refine M.gk ?_|fail);all_goals first
   |rfl
   |(exfalso;simp at h;omega)
   |(exfalso;simp at*;omega)
 .rw[if_neg hz] at ee;have h9:=ve _ (f.put at_ s) (Wj _) (by have:=UX ee;omega);rw[ee,if_pos rfl];refine M.F Tryz.func217 ?_;(repeat' first|refine M.go ?_|refine M.c2 (h1) ?_|refine M.c2 (h2) ?_|refine M.c2 (h3) ?_|refine M.c2 (h4) ?_|refine M.c2 (h5) ?_|refine M.c2 (h6) ?_|refine M.c2 (h7) ?_|refine M.c2 (h8) ?_|refine M.c2 (h9) ?_|refine M.gs ?_ ?_<;>intro h|refine M.z2 5 12 ?_|refine M.cs ?_ ?_<;>intro h|refine M.gk ?_|fail);all_goals first
   |rfl
   |(exfalso;simp at h;omega)
   |(exfalso;simp at*;omega)
theorem Zos(l:List Fm)(h:(l.map Fm.full).sum<1099511627776):PC E 63 [.s .fm l,.s .fm l] (.bool true):=by
 have hlen:=zd Fm.full Fm.Aa l;refine M.F Tryz.func63 ?_;(repeat' first|refine M.gw ?_|refine M.cs ?_ ?_<;>intro h|fail)
 .exfalso;simp at h
 refine AW.range l.length (fun m=>True) (fun m=>([(0,.s .fm l),(1,.s .fm l),(11,.s .fm l),(12,.i l.length),(13,.i m)],⟨0,[]⟩))
  (by omega) (fun m=>rfl) (fun m=>rfl) rfl trivial (M.W []) ?_ ?_
 .intro m hm _;have hs2:=za Fm.full (Wi hm);have hc:=Yab _ l[m] (Wj _) (by omega);(repeat' first|refine M.gw ?_|refine M.c2 (hc) ?_|fail);exact⟨rfl,trivial,(M.W [])⟩
 .intro _;(repeat' first|refine M.gw ?_|fail)
  rfl
end Go.Ab
