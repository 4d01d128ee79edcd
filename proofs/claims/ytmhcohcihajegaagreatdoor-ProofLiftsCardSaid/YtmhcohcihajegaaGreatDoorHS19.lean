/- A part of this seat's proofs. No conditions. -/
import Derived.Test.YtmhcohcihajegaaGreatDoorHS18
namespace Go.Ab
open Go Go.Proofs
set_option maxRecDepth 100000
set_option maxHeartbeats 4000000
set_option linter.all false
theorem Zw3:∀(n:Nat) (p:Pf),p.full<=n->n<549755813888->PC E 149 [.agg p.view] (.i p.size):=by
 intro n;induction n with
 |zero=>intro p h;have:=p.full_pos;omega
 |succ n ih=>
 intro p hsz hn;have hsz':=p.full_eq;have hse:=p.size_eq;have hlen:=zg Pf.full Pf.full_pos p.args;have hlen1:=zg Fm.full Fm.full_pos p.forms;have hlen2:=zg Tm.full Tm.full_pos p.terms;have hle0:=xv (f:=Tm.size) (g:=Tm.full) p.terms fun x _=>x.size_le_full;have hle1:=xv (f:=Fm.size) (g:=Fm.full) p.forms fun x _=>x.size_le_full;have hle2:=xv (f:=Pf.size) (g:=Pf.full) p.args fun x _=>x.size_le_full;refine M.F Tryz.func149 ?_;refine M.w0 ?_;refine M.rt p.terms.length
  (fun m=>([(1,.ptr 0 0),(3,.i (1+((p.terms.take m).map Tm.size).sum:Nat)),(11,.s .tm p.terms),(12,.i p.terms.length),(13,.i m)],⟨1,[(0,.var p.view)]⟩))
  (M.W rh1) ?_ ?_
 ·intro m hm _;have hs1:=xd Tm.size p.terms m hm;have hs2:=zc Tm.full (List.getElem_mem hm);have hs3:=ya Tm.size p.terms (m+1);have hc:=y7 _ p.terms[m] (Nat.le_refl _) (by omega);refine M.w1 @hc ?_;refine⟨rfl,trivial,?_⟩;simp only[hs1];exact(M.W rh1 (hf:=(by(repeat'(first|exact trivial|refine And.intro ?_ ?_|refine⟨_,U,_,U,?_⟩|exact VLe.refl _|exact VLe.of_eq (by simp[Sto.upd,Int.natCast_add,Int.add_assoc])));done)))
 ·intro _;simp only[List.take_length];refine M.w0 ?_;refine M.rt p.forms.length
   (fun m=>([(1,.ptr 0 0),(3,.i (1+(p.terms.map Tm.size).sum+((p.forms.take m).map Fm.size).sum:Nat)),(23,.s .fm p.forms),(24,.i p.forms.length),(25,.i m)],⟨1,[(0,.var p.view)]⟩))
   (M.W rh1) ?_ ?_
  ·intro m hm _;have hs1:=xd Fm.size p.forms m hm;have hs2:=zc Fm.full (List.getElem_mem hm);have hs3:=ya Fm.size p.forms (m+1);have hc:=Zgn _ p.forms[m] (Nat.le_refl _) (by omega);refine M.w1 @hc ?_;refine⟨rfl,trivial,?_⟩;simp only[hs1];exact(M.W rh1 (hf:=(by(repeat'(first|exact trivial|refine And.intro ?_ ?_|refine⟨_,U,_,U,?_⟩|exact VLe.refl _|exact VLe.of_eq (by simp[Sto.upd,Int.natCast_add,Int.add_assoc])));done)))
  ·intro _;simp only[List.take_length];refine M.w0 ?_;refine M.rt p.args.length
    (fun m=>([(1,.ptr 0 0),(3,.i (1+(p.terms.map Tm.size).sum+(p.forms.map Fm.size).sum+((p.args.take m).map Pf.size).sum:Nat)),(35,.s .pf p.args),(36,.i p.args.length),(37,.i m)],⟨1,[(0,.var p.view)]⟩))
    (M.W rh1) ?_ ?_
   ·intro m hm _;have hs1:=xd Pf.size p.args m hm;have hs2:=zc Pf.full (List.getElem_mem hm);have hs3:=ya Pf.size p.args (m+1);have hc:=ih p.args[m] (by omega) (by omega);refine M.w1 @hc ?_;refine⟨rfl,trivial,?_⟩;simp only[hs1];exact(M.W rh1 (hf:=(by(repeat'(first|exact trivial|refine And.intro ?_ ?_|refine⟨_,U,_,U,?_⟩|exact VLe.refl _|exact VLe.of_eq (by simp[Sto.upd,Int.natCast_add,Int.add_assoc])));done)))
   ·intro _;simp only[List.take_length];refine M.w0 ?_;rw[hse]
    rfl
theorem Zw2:∀(n:Nat) (p:Pf),p.full<=n->n<549755813888->PC E 148 [.agg p.view] (.bool p.small):=by
 intro n;induction n with
 |zero=>intro p h;have:=p.full_pos;omega
 |succ n ih=>
 intro p hsz hn;have hsz':=p.full_eq;have hse:=p.small_eq;have hlen:=zg Pf.full Pf.full_pos p.args;have hlen1:=zg Fm.full Fm.full_pos p.forms;have hlen2:=zg Tm.full Tm.full_pos p.terms;refine M.F Tryz.func148 ?_;refine M.w0 ?_;refine M.rp p.terms.length (fun m=>∀j (hj:j<p.terms.length),j<m->decide (p.terms[j].size<=4096)=true)
  (fun m=>([(1,.ptr 0 0),(10,.s .tm p.terms),(11,.i p.terms.length),(12,.i m)],⟨1,[(0,.var p.view)]⟩))
  (fun j hj h=>by omega) (M.W rh1) ?_ ?_
 ·intro m hm hP;have hs2:=zc Tm.full (List.getElem_mem hm);have hc:=y7 _ p.terms[m] (Nat.le_refl _) (by omega);have hle:=p.terms[m].size_le_full;(repeat' first|refine M.w1 @hc ?_|refine M.cs ?_ ?_<;>intro h|fail)
  ·have e:p.small=false:=by
    rw[hse,ul (fun t:Tm=>decide (t.size<=4096)) hm (by simp at h ⊢;omega)];rfl
   rw[e];rfl
  ·exact ⟨rfl,yj (p:=fun t:Tm=>decide (t.size<=4096)=true) hm hP (by simp at h ⊢;omega),(M.W rh1)⟩
 ·intro hP;have a1:=Zbu (fun t:Tm=>decide (t.size<=4096)) p.terms fun j hj=>hP j hj hj;rw[a1,Bool.true_and] at hse;refine M.w0 ?_;refine M.rp p.forms.length (fun m=>∀j (hj:j<p.forms.length),j<m->decide (p.forms[j].size<=4096)=true)
   (fun m=>([(1,.ptr 0 0),(21,.s .fm p.forms),(22,.i p.forms.length),(23,.i m)],⟨1,[(0,.var p.view)]⟩))
   (fun j hj h=>by omega) (M.W rh1) ?_ ?_
  ·intro m hm hP;have hs2:=zc Fm.full (List.getElem_mem hm);have hc:=Zgn _ p.forms[m] (Nat.le_refl _) (by omega);have hle:=p.forms[m].size_le_full;(repeat' first|refine M.w1 @hc ?_|refine M.cs ?_ ?_<;>intro h|fail)
   ·have e:p.small=false:=by
     rw[hse,ul (fun t:Fm=>decide (t.size<=4096)) hm (by simp at h ⊢;omega)];rfl
    rw[e];rfl
   ·exact ⟨rfl,yj (p:=fun t:Fm=>decide (t.size<=4096)=true) hm hP (by simp at h ⊢;omega),(M.W rh1)⟩
  ·intro hP;have a1:=Zbu (fun t:Fm=>decide (t.size<=4096)) p.forms fun j hj=>hP j hj hj;rw[a1,Bool.true_and] at hse;refine M.w0 ?_;refine M.rp p.args.length (fun m=>∀j (hj:j<p.args.length),j<m->p.args[j].small=true)
    (fun m=>([(1,.ptr 0 0),(32,.s .pf p.args),(33,.i p.args.length),(34,.i m)],⟨1,[(0,.var p.view)]⟩))
    (fun j hj h=>by omega) (M.W rh1) ?_ ?_
   ·intro m hm hP;have hs2:=zc Pf.full (List.getElem_mem hm);have hc:=ih p.args[m] (by omega) (by omega);cases hb:p.args[m].small with
    |false=>
     rw[hb] at hc;have e:p.small=false:=by rw[hse,ul Pf.small hm hb]
     rw[e];refine M.w1 @hc ?_
     rfl
    |true=>
     rw[hb] at hc;refine M.w1 @hc ?_;exact⟨rfl,yj (p:=fun t:Pf=>t.small=true) hm hP hb,(M.W rh1)⟩
   ·intro hP;have e:p.small=true:=by rw[hse];exact Zbu Pf.small p.args fun j hj=>hP j hj hj
    rw[e];refine M.w0 ?_
    rfl
theorem Zyd(p:Pf)(hp:p.full<549755813888):PC E 100 [.agg p.view] (.bool (p.small&&decide (p.size<=16384))):=by
 have h1:=Zw2 _ p (Nat.le_refl _) hp;have h2:=Zw3 _ p (Nat.le_refl _) hp;have h3:=p.size_le_full;cases hs:p.small with
 |false=>
  rw[hs] at h1;refine M.F Tryz.func100 ?_;refine M.w1 @h1 ?_
  rfl
 |true=>
  rw[hs] at h1;have e:decide (((p.size:Nat):Int)<=16384)=decide (p.size<=16384):=by rw[decide_eq_decide];omega
  refine M.F Tryz.func100 ?_;refine M.w2 @h1 @h2 ?_;simp[zn,V.wk,V.wks,za,e]
theorem Ycw(k:Int):PC E 145 [.i k] (.tup [.agg ((ndP k).getD noNd).view,.bool (ndP k).isSome]):=by
 by_cases hk:1<=k/\k<=20
 ·have:k=1\/k=2\/k=3\/k=4\/k=5\/k=6\/k=7\/k=8\/k=9\/k=10\/k=11\/k=12\/k=13\/k=14\/k=15\/k=16\/k=17\/k=18\/k=19\/k=20:=by omega
  rcases this with rfl|rfl|rfl|rfl|rfl|rfl|rfl|rfl|rfl|rfl|rfl|rfl|rfl|rfl|rfl|rfl|rfl|rfl|rfl|rfl;all_goals(refine M.F Tryz.func145 ?_)
  all_goals(refine M.v0 ?_)
  all_goals rfl
 ·have e:ndP k=none:=by
   unfold ndP
   repeat rw[if_neg (by omega)]
  rw[e];have b:∀j:Int,1<=j->j<=20->¬(k==j)=true:=fun j h1 h2 h=>by simp at h;omega
  have b1:=b 1 (by omega) (by omega);have b2:=b 2 (by omega) (by omega);have b3:=b 3 (by omega) (by omega);have b4:=b 4 (by omega) (by omega);have b5:=b 5 (by omega) (by omega);have b6:=b 6 (by omega) (by omega);have b7:=b 7 (by omega) (by omega);have b8:=b 8 (by omega) (by omega);have b9:=b 9 (by omega) (by omega);have b10:=b 10 (by omega) (by omega);have b11:=b 11 (by omega) (by omega);have b12:=b 12 (by omega) (by omega);have b13:=b 13 (by omega) (by omega);have b14:=b 14 (by omega) (by omega);have b15:=b 15 (by omega) (by omega);have b16:=b 16 (by omega) (by omega);have b17:=b 17 (by omega) (by omega);have b18:=b 18 (by omega) (by omega);have b19:=b 19 (by omega) (by omega);have b20:=b 20 (by omega) (by omega);refine M.F Tryz.func145 ?_;(repeat' first|refine M.v0 ?_|refine M.cs ?_ ?_<;>intro h|fail);all_goals first
   |contradiction
   |rfl
theorem Zxo:∀(n:Nat) (p:Pf),p.full<=n->n<549755813888->PC E 99 [.agg p.view] (.bool p.shape):=by
 intro n;induction n with
 |zero=>intro p h;have:=p.full_pos;omega
 |succ n ih=>
 intro p hsz hn;have hsz':=p.full_eq;have hse:=p.shape_eq;have hlen:=zg Pf.full Pf.full_pos p.args;have hlen1:=zg Fm.full Fm.full_pos p.forms;have hlen2:=zg Tm.full Tm.full_pos p.terms;have h1:=Ycw p.kind;cases hnd:ndP p.kind with
 |none=>
  have e:p.shape=false:=by rw[hse];simp[Pf.head,hnd]
  rw[hnd] at h1;rw[e];refine M.F Tryz.func99 ?_;refine M.w1 @h1 ?_
  rfl
 |some nd=>
 rw[hnd] at h1;simp only[Option.getD_some,Option.isSome_some] at h1;have h3:=Zme p.ty;have h4:=Zbf p.ty (by omega);have hok:=Zm1 p.ty;refine M.F Tryz.func99 ?_;(repeat' first|refine M.w3 @h1 @h3 @h4 ?_|refine M.gs ?_ ?_<;>intro h|refine M.cs ?_ ?_<;>intro h|fail);all_goals first
  |(have hd:p.head=false:=by(simp only[Pf.head,hnd];simp_all;done)
    have:p.shape=false:=by rw[hse,hd];rfl
    simp[this,zn,za,V.wk,V.wks];done)
  |(have hd:p.head=false:=by(simp only[Pf.head,hnd];simp_all;omega)
    have:p.shape=false:=by rw[hse,hd];rfl
    simp[this,zn,za,V.wk,V.wks];done)
  |(have hd:p.head=true:=by(simp only[Pf.head,hnd];simp_all;try omega)
    rw[hd,Bool.true_and] at hse;refine M.rp p.terms.length (fun m=>∀j (hj:j<p.terms.length),j<m->p.terms[j].shape=true)
     (fun m=>([(1,.ptr 0 0),(78,.s .tm p.terms),(79,.i p.terms.length),(80,.i m)],⟨2,[(0,.var p.view),(1,.var nd.view)]⟩))
     (fun j hj h=>by omega) (M.W rh2) ?_ ?_
    ·intro m hm hP;have hs2:=zc Tm.full (List.getElem_mem hm);have hc:=Zje _ p.terms[m] (Nat.le_refl _) (by omega);cases hb:p.terms[m].shape with
     |false=>
      rw[hb] at hc;have e:p.shape=false:=by rw[hse,ul Tm.shape hm hb];rfl
      rw[e];refine M.w1 @hc ?_
      rfl
     |true=>
      rw[hb] at hc;refine M.w1 @hc ?_;exact⟨rfl,yj (p:=fun t:Tm=>t.shape=true) hm hP hb,(M.W rh2)⟩
    ·intro hP;have a1:=Zbu Tm.shape p.terms fun j hj=>hP j hj hj;rw[a1,Bool.true_and] at hse;refine M.w0 ?_;refine M.rp p.forms.length (fun m=>∀j (hj:j<p.forms.length),j<m->p.forms[j].shape=true)
      (fun m=>([(1,.ptr 0 0),(89,.s .fm p.forms),(90,.i p.forms.length),(91,.i m)],⟨2,[(0,.var p.view),(1,.var nd.view)]⟩))
      (fun j hj h=>by omega) (M.W rh2) ?_ ?_
     ·intro m hm hP;have hs2:=zc Fm.full (List.getElem_mem hm);have hc:=Zpv _ p.forms[m] (Nat.le_refl _) (by omega);cases hb:p.forms[m].shape with
      |false=>
       rw[hb] at hc;have e:p.shape=false:=by rw[hse,ul Fm.shape hm hb];rfl
       rw[e];refine M.w1 @hc ?_
       rfl
      |true=>
       rw[hb] at hc;refine M.w1 @hc ?_;exact⟨rfl,yj (p:=fun t:Fm=>t.shape=true) hm hP hb,(M.W rh2)⟩
     ·intro hP;have a1:=Zbu Fm.shape p.forms fun j hj=>hP j hj hj;rw[a1,Bool.true_and] at hse;refine M.w0 ?_;refine M.rp p.args.length (fun m=>∀j (hj:j<p.args.length),j<m->p.args[j].shape=true)
       (fun m=>([(1,.ptr 0 0),(100,.s .pf p.args),(101,.i p.args.length),(102,.i m)],⟨2,[(0,.var p.view),(1,.var nd.view)]⟩))
       (fun j hj h=>by omega) (M.W rh2) ?_ ?_
      ·intro m hm hP;have hs2:=zc Pf.full (List.getElem_mem hm);have hc:=ih p.args[m] (by omega) (by omega);cases hb:p.args[m].shape with
       |false=>
        rw[hb] at hc;have e:p.shape=false:=by rw[hse,ul Pf.shape hm hb]
        rw[e];refine M.w1 @hc ?_
        rfl
       |true=>
        rw[hb] at hc;refine M.w1 @hc ?_;exact⟨rfl,yj (p:=fun t:Pf=>t.shape=true) hm hP hb,(M.W rh2)⟩
      ·intro hP;have e:p.shape=true:=by rw[hse];exact Zbu Pf.shape p.args fun j hj=>hP j hj hj
       rw[e];refine M.w0 ?_
       rfl)
theorem Zoc(p:Pf)(hp:p.full<549755813888):PC E 40 [.agg p.view] (.i p.err):=by
 have h1:=Zxo _ p (Nat.le_refl _) hp;have h2:=Zyd p hp;cases hs:p.shape with
 |false=>
  have e:p.err=2:=by simp[Pf.err,hs]
  rw[hs] at h1;rw[e];refine M.F Tryz.func40 ?_;refine M.w1 @h1 ?_
  rfl
 |true=>
  rw[hs] at h1;cases hf:p.small&&decide (p.size<=16384) with
  |false=>
   have e:p.err=4:=by
    simp only[Pf.err,hs];rw[if_neg (by simp),if_pos];cases hm:p.small with
    |false=>exact .inl rfl
    |true=>rw[hm] at hf;simp at hf;exact .inr hf
   rw[hf] at h2;rw[e];refine M.F Tryz.func40 ?_;refine M.w2 @h1 @h2 ?_
   rfl
  |true=>
   have e:p.err=0:=by simp at hf;exact(Pf.err_iff p).2 ⟨hs,hf.1,hf.2⟩
   rw[hf] at h2;rw[e];refine M.F Tryz.func40 ?_;refine M.w2 @h1 @h2 ?_
   rfl
theorem Zmc(tys:List Ty)(hyps:List Fm)(f:Fm)(hl:hyps.length<=1000):PC E 53 [.agg [.s .ty tys,.s .fm hyps],.agg f.view] (.agg [.s .ty tys,.s .fm (hyps++[f])]):=by
 refine M.F Tryz.func53 ?_;refine M.w0 ?_;all_goals first
  |rfl
  |simp[zn,V.wk,V.wks,za,Ty.view,Tm.view]
  |trace_state
theorem Zc2(tys:List Ty)(hyps:List Fm)(l:List Ty)(hh:∀f∈hyps,f.err=0/\f.okT tys)(hg:tys.length<=20)(hl:l.length<=2)(hn:hyps.length<=20):
 PC E 56 [.agg [.s .ty tys,.s .fm hyps],.s .ty l] (.agg [.s .ty (tys++l),.s .fm (hyps.map fun f=>f.lft 0 l.length)]):=by
 have h1:=Za5 tys l (by omega);refine M.F Tryz.func56 ?_;refine M.w1 @h1 ?_;refine M.rt hyps.length
  (fun m=>([(1,.s .ty l),(4,.ptr 1 0),(5,.ptr 2 0),(14,.s .fm hyps),(15,.i hyps.length),(16,.i m)],⟨4,[(0,.var [.s .ty tys,.s .fm hyps]),(1,.var [.slice .nil (.t .ty []),.slice .nil (.t .fm [])]),(2,.var [.s .ty (tys++l),.slice (.own 3) (.t .fm ((hyps.take m).map fun f=>f.lft 0 l.length))]),(3,.row)]⟩))
  (M.W rn3) ?_ ?_
 ·intro m hm _;have hf:=hh hyps[m] (List.getElem_mem hm);have hc:=Zf7 hf.2 ((Fm.err_iff _).1 hf.1).1 (by have:=((Fm.err_iff _).1 hf.1).2;omega) (by omega) 0 l.length (by omega) (by omega);refine M.w1 @hc ?_;exact⟨rfl,trivial,(M.W [some 0,some 1,some 2,some 5] (he:=(by(repeat'(first|exact trivial|exact Or.inr ⟨_,U,rfl⟩|refine And.intro ?_ ?_|refine⟨_,U,_,U,_,U,?_⟩|exact VLe.refl _|exact VLe.of_eq (by simp[Sto.upd,ym _ _ _ hm])));done)))⟩
 ·intro _;simp only[List.take_length];refine M.w0 ?_;all_goals first
   |rfl
   |simp[zn,V.wk,V.wks,za,Ty.view,Tm.view]
   |trace_state
theorem Zyt{g:List Ty}{t:Tm}(he:t.err=0)(hi:t.inf g=(natT,0))(hg:g.length<=20):PC E 61 [.agg t.view] (.agg (t.re (zk 0 1) 0).view):=by
 have hf:=yt he;have hs:=(Tm.err_iff t).1 he;have h1:=Zdw t t (by omega) (by omega);have h2:=Zf7 (f:=eqF t t) (g:=g) (eq_okT.2 ⟨hi,hi⟩) (Zbq hs.1 hs.1) (by have:=Zc7 t t;omega) (by omega) 0 1 (by omega) (by omega);rw[Ygz] at h2;rw[show(0:Int)+0=0 from rfl] at h2;generalize t.re (zk 0 1) 0=u at*;refine M.F Tryz.func61 ?_;refine M.w2 @h1 @h2 ?_;all_goals first
  |rfl
  |simp[zn,V.wk,V.wks,za,Ty.view,Tm.view]
  |trace_state
theorem Yc5(k:Int)(f:Fm)(t:Tm)(p:Pf)(hf:f.full<500000000000)(ht:t.full<500000000000)(hp:p.full<500000000000):
 AC E 63 [.i k,.agg f.view,.agg t.view,.agg p.view] ⟨0,[]⟩ (.agg [.i k,.i 0,.i 0,.s .ty [],.s .tm [t],.arr 0 1 5,.s .pf [p]]) ⟨1,[(0,.var f.view)]⟩:=by
 have h1:=Zmx k t p ht hp;have h2:=uu _ f (Nat.le_refl _) (by omega);refine M.F Tryz.func63 ?_;(repeat' first|refine M.o1 @h1 ?_|refine M.z1 2 ?_|refine M.gk ?_|fail);refine K.sq (AW.regL ?_);refine L.ldb rfl rfl rfl rfl rfl rfl ?_;refine L.c2 h2 rfl rfl rfl rfl ?_;refine L.bsA1 0 rfl rfl rfl rfl rfl rfl rfl ?_;refine M.w0 ?_;refine K.rt [some 5] rfl rfl rfl rfl rfl ?_ rfl ?_
 ·exact ⟨⟨_,rfl,_,rfl,_,rfl,VsLe.refl _⟩,trivial⟩
 ·first
   |exact VLe.refl _
   |(refine VLe.of_eq ?_;simp[zn,Ty.view,Tm.view];rfl)
section
variable {c:Ck} (hc:c.ok) {p q:Pf} {r0 r1:Rs}
include hc
theorem Yg1{f:Fm}{t:Tm}(hf:f.full<=300000)(ht:t.full<=300000)
 (hpa:PC E 196 [.agg c.view,.agg p.view,.agg f.view,.agg nilM.view] (.tup [.s .int (xw r0 c f nilM).1,.i (xw r0 c f nilM).2]))
 (hpb:((c.below [natT,listT]).with_ (f.lft 1 1)).ok->PC E 196 [.agg ((c.below [natT,listT]).with_ (f.lft 1 1)).view,.agg q.view,.agg (f.lft 1 2).view,.agg consM.view] (.tup [.s .int (xw r1 ((c.below [natT,listT]).with_ (f.lft 1 1)) (f.lft 1 2) consM).1,.i (xw r1 ((c.below [natT,listT]).with_ (f.lft 1 1)) (f.lft 1 2) consM).2]))
 (hua:UsesOk c.tys.length (xw r0 c f nilM).1) (hub:((c.below [natT,listT]).with_ (f.lft 1 1)).ok->UsesOk (c.tys.length+2) (xw r1 ((c.below [natT,listT]).with_ (f.lft 1 1)) (f.lft 1 2) consM).1):
 PC E 158 [.agg c.view,.agg (Pf.mk 17 0 (.mk 0 []) [t] [f] [p,q]).view] (Zc5 (Zrw f t r0 r1 c)):=by
 have hl:=hc.len;have hn:=hc.nh;have hsum:=hc.sum;have hul:=hua.len;have h1:=Zh3 (c.tys++[listT]) f (by omega) (hc.one Zge) (by simp;omega);have h2:=Zyv c t 2 (by omega) (by omega);have h3:=n_c 7 [] (by simp);have h4:=Zir c 2 1 (by omega) (by omega);have h5:=u6;have h6:=Zh8 c hc [natT,listT] (by simp) (by simp);have h7:=Zlj (c.below [natT,listT]) (f.lft 1 1) (by simp[Ck.below];omega);have h9:=Zdf 0;have h9':=Zdf 1;have h5':=Za3;have h10:=n_c 8 [vT 1,vT 0] (by simp[vT,Tm.full,Tm.fulls,Ty.size,Ty.sizes]);have h11:=Zk5 f t (by omega) (by omega);unfold Zrw;generalize hA:xw r0 c f nilM=a at*;generalize hB:xw r1 ((c.below [natT,listT]).with_ (f.lft 1 1)) (f.lft 1 2) consM=b at*;by_cases e0:uq (c.tys++[listT]) f=0;case neg=>
  rw[if_pos e0];refine M.F Tryz.func158 ?_;(repeat' first|refine M.o2 @h5' @h1 ?_|refine M.z1 5 ?_|refine M.cs ?_ ?_<;>intro h|refine M.gk ?_|fail);all_goals first
   |rfl
   |(exfalso;simp at h;exact e0 h)
   |trace_state
 rw[if_neg (by simp[e0])];rw[e0] at h1;obtain⟨f1,f2⟩:=Zbe (hc.one Zge) e0;have s0:=(Fm.err_iff _).1 f1;by_cases e1:Zp8 c t 2=0;case neg=>
  rw[if_pos e1];refine M.F Tryz.func158 ?_;(repeat' first|refine M.o3 @h5' @h1 @h2 ?_|refine M.z1 8 ?_|refine M.cs ?_ ?_<;>intro h|refine M.gk ?_|fail);all_goals first
   |rfl
   |(exfalso;simp at h;exact e1 h)
   |trace_state
 rw[if_neg (by simp[e1])];rw[e1] at h2;obtain⟨te,ti⟩:=Zot e1;by_cases e2:a.2=0;case neg=>
  rw[if_pos e2];refine M.F Tryz.func158 ?_;(repeat' first|refine M.o5 @h5' @h1 @h2 @h3 @hpa ?_|refine M.z1 11 ?_|refine M.cs ?_ ?_<;>intro h|refine M.gk ?_|fail);all_goals first
   |rfl
   |(exfalso;simp at h;exact e2 h)
   |trace_state
 rw[if_neg (by simp[e2])];rw[e2] at hpa;by_cases e3:c.room 2 1=0;case neg=>
  rw[if_pos e3];rw[Zji e3] at h4;refine M.F Tryz.func158 ?_;refine M.w6 @h5' @h1 @h2 @h3 @hpa @h4 ?_;all_goals first
   |rfl
   |trace_state
 rw[if_neg (by simp[e3])];rw[e3] at h4;have hr:=v7 e3;have hb:((c.below [natT,listT]).with_ (f.lft 1 1)).ok:=(hc.below (l:=[natT,listT]) hr.1 (by simp[Zde,Zge])).with_ (by simpa[Ck.below] using hr.2) (Zj7 f1 (by omega)) (by simpa[Ck.below] using Zdb (g:=c.tys) (h:=[listT]) [natT] s0.1 f2);have h8:=Zf7 f2 s0.1 (by omega) (by simp;omega) 1 1 (by omega) (by omega);have h8':=Zf7 f2 s0.1 (by omega) (by simp;omega) 1 2 (by omega) (by omega);have h12:=hpb hb;have hub':=hub hb;by_cases e4:b.2=0;case neg=>
  rw[if_pos e4];refine M.F Tryz.func158 ?_;(repeat' first|refine M.o6 @h5 @h5' @h1 @h2 @h3 @hpa ?_|refine M.c2 (h4) ?_|refine M.c2 (h6) ?_|refine M.c2 (h7) ?_|refine M.c2 (h8) ?_|refine M.c2 (h8') ?_|refine M.c2 (h9) ?_|refine M.c2 (h9') ?_|refine M.c2 (h10) ?_|refine M.c2 (h12) ?_|refine M.z1 17 ?_|refine M.cs ?_ ?_<;>intro h|refine M.gk ?_|fail);all_goals first
   |rfl
   |(exfalso;simp at h;exact e4 h)
   |trace_state
 rw[if_neg (by simp[e4])];rw[e4] at h12;have hfr:=Zlm t te ti (by omega);have hfl:=(Zam ti).len;have hun:=Zbb (Zes t) a.1 (by omega) (by omega);have hlu:UsesOk c.tys.length (u7 (Zes t) a.1):= .union (Zam ti).2 hua.2;have hll:=hlu.len;have hbl:=hub'.len;have hou:=Zub b.1 2 (by omega) (by omega) (fun x hx=>by have:=hub'.2 x hx;omega);have hol:=Zh0 b.1 2;have hun2:=Zbb (u7 (Zes t) a.1) (Zj9 b.1 2) (by omega) (by omega);refine M.F Tryz.func158 ?_;(repeat' first|refine M.w6 @h5 @h5' @h1 @h2 @h3 @hpa ?_|refine M.c2 (h4) ?_|refine M.c2 (h6) ?_|refine M.c2 (h7) ?_|refine M.c2 (h8) ?_|refine M.c2 (h8') ?_|refine M.c2 (h9) ?_|refine M.c2 (h9') ?_|refine M.c2 (h10) ?_|refine M.c2 (h12) ?_|refine M.c2 (h11) ?_|refine M.c2 (hfr) ?_|refine M.c2 (hun) ?_|refine M.c2 (hou) ?_|refine M.c2 (hun2) ?_|fail);all_goals first
  |rfl
  |trace_state
end
end Go.Ab
