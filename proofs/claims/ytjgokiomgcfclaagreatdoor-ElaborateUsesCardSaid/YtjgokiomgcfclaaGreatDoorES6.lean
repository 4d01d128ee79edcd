/- A part of the proofs of this seat. No conditions. -/
import Derived.Test.YtjgokiomgcfclaaGreatDoorES5
namespace Go.Ab
open Go Go.Proofs
set_option maxRecDepth 100000
set_option maxHeartbeats 4000000
set_option linter.all false
theorem Zw9:∀(n:Nat) (p:Pf),p.full<=n->n<549755813888->PC E 146 [.agg p.view] (.i p.size):=by
 intro n;induction n with
 |zero=>intro p h;have:=p.Ac;omega
 |succ n ih=>
 intro p hsz hn;have hsz':=p.Af;have hse:=p.size_eq;have hlen:=zh Pf.full Pf.Ac p.args;have hlen1:=zh Fm.full Fm.Ac p.Aq;have hlen2:=zh Tm.full Tm.Ac p.terms;have hle0:=xr (f:=Tm.size) (g:=Tm.full) p.terms fun x _=>x.Aj;have hle1:=xr (f:=Fm.size) (g:=Fm.full) p.Aq fun x _=>x.Aj;have hle2:=xr (f:=Pf.size) (g:=Pf.full) p.args fun x _=>x.Aj;refine M.F Tryz.func146 ?_;(repeat' first|refine M.gw ?_|fail);refine AW.range p.terms.length (fun m=>True)
  (fun m=>([(1,.ptr 0 0),(3,.i (1+((p.terms.take m).map Tm.size).sum:Nat)),(11,.s .tm p.terms),(12,.i p.terms.length),(13,.i m)],⟨1,[(0,.var p.view)]⟩))
  (by omega) (fun m=>rfl) (fun m=>rfl) rfl trivial (M.W [some 0]) ?_ ?_
 ·intro m hm _;have hs1:=yv Tm.size p.terms m hm;have hs2:=ze Tm.full (List.getElem_mem hm);have hs3:=yc Tm.size p.terms (m+1);have hc:=yx _ p.terms[m] (Nat.le_refl _) (by omega);(repeat' first|refine M.gw ?_|refine M.c2 (hc) ?_|fail);refine⟨rfl,trivial,?_⟩;simp only[hs1];exact(M.W [some 0] (hf:=(by(repeat'(first|exact trivial|refine And.intro ?_ ?_|refine⟨_,U,_,U,?_⟩|exact An.refl _|exact An.of_eq (by simp[Al.Aw,Int.natCast_add,Int.add_assoc])));done)))
 ·intro _;simp only[List.take_length];(repeat' first|refine M.gw ?_|fail);refine AW.range p.Aq.length (fun m=>True)
   (fun m=>([(1,.ptr 0 0),(3,.i (1+(p.terms.map Tm.size).sum+((p.Aq.take m).map Fm.size).sum:Nat)),(23,.s .fm p.Aq),(24,.i p.Aq.length),(25,.i m)],⟨1,[(0,.var p.view)]⟩))
   (by omega) (fun m=>rfl) (fun m=>rfl) rfl trivial (M.W [some 0]) ?_ ?_
  ·intro m hm _;have hs1:=yv Fm.size p.Aq m hm;have hs2:=ze Fm.full (List.getElem_mem hm);have hs3:=yc Fm.size p.Aq (m+1);have hc:=N9 _ p.Aq[m] (Nat.le_refl _) (by omega);(repeat' first|refine M.gw ?_|refine M.c2 (hc) ?_|fail);refine⟨rfl,trivial,?_⟩;simp only[hs1];exact(M.W [some 0] (hf:=(by(repeat'(first|exact trivial|refine And.intro ?_ ?_|refine⟨_,U,_,U,?_⟩|exact An.refl _|exact An.of_eq (by simp[Al.Aw,Int.natCast_add,Int.add_assoc])));done)))
  ·intro _;simp only[List.take_length];(repeat' first|refine M.gw ?_|fail);refine AW.range p.args.length (fun m=>True)
    (fun m=>([(1,.ptr 0 0),(3,.i (1+(p.terms.map Tm.size).sum+(p.Aq.map Fm.size).sum+((p.args.take m).map Pf.size).sum:Nat)),(35,.s .pf p.args),(36,.i p.args.length),(37,.i m)],⟨1,[(0,.var p.view)]⟩))
    (by omega) (fun m=>rfl) (fun m=>rfl) rfl trivial (M.W [some 0]) ?_ ?_
   ·intro m hm _;have hs1:=yv Pf.size p.args m hm;have hs2:=ze Pf.full (List.getElem_mem hm);have hs3:=yc Pf.size p.args (m+1);have hc:=ih p.args[m] (by omega) (by omega);(repeat' first|refine M.gw ?_|refine M.c2 (hc) ?_|fail);refine⟨rfl,trivial,?_⟩;simp only[hs1];exact(M.W [some 0] (hf:=(by(repeat'(first|exact trivial|refine And.intro ?_ ?_|refine⟨_,U,_,U,?_⟩|exact An.refl _|exact An.of_eq (by simp[Al.Aw,Int.natCast_add,Int.add_assoc])));done)))
   ·intro _;simp only[List.take_length];(repeat' first|refine M.gw ?_|fail);rw[hse]
    rfl
theorem Zwe:∀(n:Nat) (p:Pf),p.full<=n->n<549755813888->PC E 145 [.agg p.view] (.bool p.small):=by
 intro n;induction n with
 |zero=>intro p h;have:=p.Ac;omega
 |succ n ih=>
 intro p hsz hn;have hsz':=p.Af;have hse:=p.CA;have hlen:=zh Pf.full Pf.Ac p.args;have hlen1:=zh Fm.full Fm.Ac p.Aq;have hlen2:=zh Tm.full Tm.Ac p.terms;refine M.F Tryz.func145 ?_;(repeat' first|refine M.gw ?_|fail);refine AW.range p.terms.length (fun m=>∀j (hj:j<p.terms.length),j<m->decide (p.terms[j].size<=4096)=true)
  (fun m=>([(1,.ptr 0 0),(10,.s .tm p.terms),(11,.i p.terms.length),(12,.i m)],⟨1,[(0,.var p.view)]⟩))
  (by omega) (fun m=>rfl) (fun m=>rfl) rfl (fun j hj h=>by omega) (M.W [some 0]) ?_ ?_
 ·intro m hm hP;have hs2:=ze Tm.full (List.getElem_mem hm);have hc:=yx _ p.terms[m] (Nat.le_refl _) (by omega);have hle:=p.terms[m].Aj;(repeat' first|refine M.gw ?_|refine M.c2 (hc) ?_|refine M.cs ?_ ?_<;>intro h|fail)
  ·have e:p.small=false:=by
    rw[hse,ve (fun t:Tm=>decide (t.size<=4096)) hm (by simp at h ⊢;omega)];rfl
   rw[e];rfl
  ·exact ⟨rfl,z4 (p:=fun t:Tm=>decide (t.size<=4096)=true) hm hP (by simp at h ⊢;omega),(M.W [some 0])⟩
 ·intro hP;have a1:=EA (fun t:Tm=>decide (t.size<=4096)) p.terms fun j hj=>hP j hj hj;rw[a1,Bool.true_and] at hse;(repeat' first|refine M.gw ?_|fail);refine AW.range p.Aq.length (fun m=>∀j (hj:j<p.Aq.length),j<m->decide (p.Aq[j].size<=4096)=true)
   (fun m=>([(1,.ptr 0 0),(21,.s .fm p.Aq),(22,.i p.Aq.length),(23,.i m)],⟨1,[(0,.var p.view)]⟩))
   (by omega) (fun m=>rfl) (fun m=>rfl) rfl (fun j hj h=>by omega) (M.W [some 0]) ?_ ?_
  ·intro m hm hP;have hs2:=ze Fm.full (List.getElem_mem hm);have hc:=N9 _ p.Aq[m] (Nat.le_refl _) (by omega);have hle:=p.Aq[m].Aj;(repeat' first|refine M.gw ?_|refine M.c2 (hc) ?_|refine M.cs ?_ ?_<;>intro h|fail)
   ·have e:p.small=false:=by
     rw[hse,ve (fun t:Fm=>decide (t.size<=4096)) hm (by simp at h ⊢;omega)];rfl
    rw[e];rfl
   ·exact ⟨rfl,z4 (p:=fun t:Fm=>decide (t.size<=4096)=true) hm hP (by simp at h ⊢;omega),(M.W [some 0])⟩
  ·intro hP;have a1:=EA (fun t:Fm=>decide (t.size<=4096)) p.Aq fun j hj=>hP j hj hj;rw[a1,Bool.true_and] at hse;(repeat' first|refine M.gw ?_|fail);refine AW.range p.args.length (fun m=>∀j (hj:j<p.args.length),j<m->p.args[j].small=true)
    (fun m=>([(1,.ptr 0 0),(32,.s .pf p.args),(33,.i p.args.length),(34,.i m)],⟨1,[(0,.var p.view)]⟩))
    (by omega) (fun m=>rfl) (fun m=>rfl) rfl (fun j hj h=>by omega) (M.W [some 0]) ?_ ?_
   ·intro m hm hP;have hs2:=ze Pf.full (List.getElem_mem hm);have hc:=ih p.args[m] (by omega) (by omega);cases hb:p.args[m].small with
    |false=>
     rw[hb] at hc;have e:p.small=false:=by rw[hse,ve Pf.small hm hb]
     rw[e];(repeat' first|refine M.gw ?_|refine M.c2 (hc) ?_|fail)
     rfl
    |true=>
     rw[hb] at hc;(repeat' first|refine M.gw ?_|refine M.c2 (hc) ?_|fail);exact⟨rfl,z4 (p:=fun t:Pf=>t.small=true) hm hP hb,(M.W [some 0])⟩
   ·intro hP;have e:p.small=true:=by rw[hse];exact EA Pf.small p.args fun j hj=>hP j hj hj
    rw[e];(repeat' first|refine M.gw ?_|fail)
    rfl
theorem Sn(p:Pf)(hp:p.full<549755813888):PC E 92 [.agg p.view] (.bool (p.small&&decide (p.size<=16384))):=by
 have h1:=Zwe _ p (Nat.le_refl _) hp;have h2:=Zw9 _ p (Nat.le_refl _) hp;have h3:=p.Aj;cases hs:p.small with
 |false=>
  rw[hs] at h1;refine M.F Tryz.func92 ?_;(repeat' first|refine M.gw ?_|refine M.c2 (h1) ?_|fail)
  rfl
 |true=>
  rw[hs] at h1;have e:decide (((p.size:Nat):Int)<=16384)=decide (p.size<=16384):=by rw[decide_eq_decide];omega
  refine M.F Tryz.func92 ?_;(repeat' first|refine M.gw ?_|refine M.c2 (h1) ?_|refine M.c2 (h2) ?_|fail);simp[zk,V.wk,V.Ak,zd,e]
theorem Yab(k:Int):PC E 142 [.i k] (.Ax [.agg ((C1 k).getD QF).view,.bool (C1 k).isSome]):=by
 by_cases hk:1<=k/\k<=20
 ·have:k=1\/k=2\/k=3\/k=4\/k=5\/k=6\/k=7\/k=8\/k=9\/k=10\/k=11\/k=12\/k=13\/k=14\/k=15\/k=16\/k=17\/k=18\/k=19\/k=20:=by omega
  rcases this with rfl|rfl|rfl|rfl|rfl|rfl|rfl|rfl|rfl|rfl|rfl|rfl|rfl|rfl|rfl|rfl|rfl|rfl|rfl|rfl;all_goals(refine M.F Tryz.func142 ?_)
  all_goals(repeat'(first|refine M.gw ?_|refine M.bl ?_|fail))
  all_goals rfl
 ·have e:C1 k=none:=by
   unfold C1
   repeat rw[if_neg (by omega)]
  rw[e];have b:∀j:Int,1<=j->j<=20->¬(k==j)=true:=fun j h1 h2 h=>by simp at h;omega
  have b1:=b 1 (by omega) (by omega);have b2:=b 2 (by omega) (by omega);have b3:=b 3 (by omega) (by omega);have b4:=b 4 (by omega) (by omega);have b5:=b 5 (by omega) (by omega);have b6:=b 6 (by omega) (by omega);have b7:=b 7 (by omega) (by omega);have b8:=b 8 (by omega) (by omega);have b9:=b 9 (by omega) (by omega);have b10:=b 10 (by omega) (by omega);have b11:=b 11 (by omega) (by omega);have b12:=b 12 (by omega) (by omega);have b13:=b 13 (by omega) (by omega);have b14:=b 14 (by omega) (by omega);have b15:=b 15 (by omega) (by omega);have b16:=b 16 (by omega) (by omega);have b17:=b 17 (by omega) (by omega);have b18:=b 18 (by omega) (by omega);have b19:=b 19 (by omega) (by omega);have b20:=b 20 (by omega) (by omega);refine M.F Tryz.func142 ?_;(repeat' first|refine M.gw ?_|refine M.bl ?_|refine M.cs ?_ ?_<;>intro h|fail);all_goals first
   |contradiction
   |rfl
theorem Zux:∀(n:Nat) (p:Pf),p.full<=n->n<549755813888->PC E 91 [.agg p.view] (.bool p.shape):=by
 intro n;induction n with
 |zero=>intro p h;have:=p.Ac;omega
 |succ n ih=>
 intro p hsz hn;have hsz':=p.Af;have hse:=p.Ag;have hlen:=zh Pf.full Pf.Ac p.args;have hlen1:=zh Fm.full Fm.Ac p.Aq;have hlen2:=zh Tm.full Tm.Ac p.terms;have h1:=Yab p.kind;cases hnd:C1 p.kind with
 |none=>
  have e:p.shape=false:=by rw[hse];simp[Pf.head,hnd]
  rw[hnd] at h1;rw[e];refine M.F Tryz.func91 ?_;(repeat' first|refine M.gw ?_|refine M.c2 (h1) ?_|fail)
  rfl
 |some nd=>
 rw[hnd] at h1;simp only[Option.getD_some,Option.isSome_some] at h1;have h3:=QH p.ty;have h4:=J4 p.ty (by omega);have hok:=Qm p.ty;refine M.F Tryz.func91 ?_;(repeat' first|refine M.gw ?_|refine M.c2 (h1) ?_|refine M.c2 (h3) ?_|refine M.c2 (h4) ?_|refine M.gs ?_ ?_<;>intro h|refine M.cs ?_ ?_<;>intro h|fail);all_goals first
  |(have hd:p.head=false:=by(simp only[Pf.head,hnd];simp_all;done)
    have:p.shape=false:=by rw[hse,hd];rfl
    simp[this,zk,zd,V.wk,V.Ak];done)
  |(have hd:p.head=false:=by(simp only[Pf.head,hnd];simp_all;omega)
    have:p.shape=false:=by rw[hse,hd];rfl
    simp[this,zk,zd,V.wk,V.Ak];done)
  |(have hd:p.head=true:=by(simp only[Pf.head,hnd];simp_all;try omega)
    rw[hd,Bool.true_and] at hse;refine AW.range p.terms.length (fun m=>∀j (hj:j<p.terms.length),j<m->p.terms[j].shape=true)
     (fun m=>([(1,.ptr 0 0),(78,.s .tm p.terms),(79,.i p.terms.length),(80,.i m)],⟨2,[(0,.var p.view),(1,.var nd.view)]⟩))
     (by omega) (fun m=>rfl) (fun m=>rfl) rfl (fun j hj h=>by omega) (M.W [some 0,some 1]) ?_ ?_
    ·intro m hm hP;have hs2:=ze Tm.full (List.getElem_mem hm);have hc:=Oy _ p.terms[m] (Nat.le_refl _) (by omega);cases hb:p.terms[m].shape with
     |false=>
      rw[hb] at hc;have e:p.shape=false:=by rw[hse,ve Tm.shape hm hb];rfl
      rw[e];(repeat' first|refine M.gw ?_|refine M.c2 (hc) ?_|fail)
      rfl
     |true=>
      rw[hb] at hc;(repeat' first|refine M.gw ?_|refine M.c2 (hc) ?_|fail);exact⟨rfl,z4 (p:=fun t:Tm=>t.shape=true) hm hP hb,(M.W [some 0,some 1])⟩
    ·intro hP;have a1:=EA Tm.shape p.terms fun j hj=>hP j hj hj;rw[a1,Bool.true_and] at hse;(repeat' first|refine M.gw ?_|fail);refine AW.range p.Aq.length (fun m=>∀j (hj:j<p.Aq.length),j<m->p.Aq[j].shape=true)
      (fun m=>([(1,.ptr 0 0),(89,.s .fm p.Aq),(90,.i p.Aq.length),(91,.i m)],⟨2,[(0,.var p.view),(1,.var nd.view)]⟩))
      (by omega) (fun m=>rfl) (fun m=>rfl) rfl (fun j hj h=>by omega) (M.W [some 0,some 1]) ?_ ?_
     ·intro m hm hP;have hs2:=ze Fm.full (List.getElem_mem hm);have hc:=V1 _ p.Aq[m] (Nat.le_refl _) (by omega);cases hb:p.Aq[m].shape with
      |false=>
       rw[hb] at hc;have e:p.shape=false:=by rw[hse,ve Fm.shape hm hb];rfl
       rw[e];(repeat' first|refine M.gw ?_|refine M.c2 (hc) ?_|fail)
       rfl
      |true=>
       rw[hb] at hc;(repeat' first|refine M.gw ?_|refine M.c2 (hc) ?_|fail);exact⟨rfl,z4 (p:=fun t:Fm=>t.shape=true) hm hP hb,(M.W [some 0,some 1])⟩
     ·intro hP;have a1:=EA Fm.shape p.Aq fun j hj=>hP j hj hj;rw[a1,Bool.true_and] at hse;(repeat' first|refine M.gw ?_|fail);refine AW.range p.args.length (fun m=>∀j (hj:j<p.args.length),j<m->p.args[j].shape=true)
       (fun m=>([(1,.ptr 0 0),(100,.s .pf p.args),(101,.i p.args.length),(102,.i m)],⟨2,[(0,.var p.view),(1,.var nd.view)]⟩))
       (by omega) (fun m=>rfl) (fun m=>rfl) rfl (fun j hj h=>by omega) (M.W [some 0,some 1]) ?_ ?_
      ·intro m hm hP;have hs2:=ze Pf.full (List.getElem_mem hm);have hc:=ih p.args[m] (by omega) (by omega);cases hb:p.args[m].shape with
       |false=>
        rw[hb] at hc;have e:p.shape=false:=by rw[hse,ve Pf.shape hm hb]
        rw[e];(repeat' first|refine M.gw ?_|refine M.c2 (hc) ?_|fail)
        rfl
       |true=>
        rw[hb] at hc;(repeat' first|refine M.gw ?_|refine M.c2 (hc) ?_|fail);exact⟨rfl,z4 (p:=fun t:Pf=>t.shape=true) hm hP hb,(M.W [some 0,some 1])⟩
      ·intro hP;have e:p.shape=true:=by rw[hse];exact EA Pf.shape p.args fun j hj=>hP j hj hj
       rw[e];(repeat' first|refine M.gw ?_|fail)
       rfl)
theorem Sa(p:Pf)(hp:p.full<549755813888):PC E 44 [.agg p.view] (.i p.err):=by
 have h1:=Zux _ p (Nat.le_refl _) hp;have h2:=Sn p hp;cases hs:p.shape with
 |false=>
  have e:p.err=2:=by simp[Pf.err,hs]
  rw[hs] at h1;rw[e];refine M.F Tryz.func44 ?_;(repeat' first|refine M.gw ?_|refine M.c2 (h1) ?_|fail)
  rfl
 |true=>
  rw[hs] at h1;cases hf:p.small&&decide (p.size<=16384) with
  |false=>
   have e:p.err=4:=by
    simp only[Pf.err,hs];rw[if_neg (by simp),if_pos];cases hm:p.small with
    |false=>exact .inl rfl
    |true=>rw[hm] at hf;simp at hf;exact .inr hf
   rw[hf] at h2;rw[e];refine M.F Tryz.func44 ?_;(repeat' first|refine M.gw ?_|refine M.c2 (h1) ?_|refine M.c2 (h2) ?_|fail)
   rfl
  |true=>
   have e:p.err=0:=by simp at hf;exact(Pf.Ad p).2 ⟨hs,hf.1,hf.2⟩
   rw[hf] at h2;rw[e];refine M.F Tryz.func44 ?_;(repeat' first|refine M.gw ?_|refine M.c2 (h1) ?_|refine M.c2 (h2) ?_|fail)
   rfl
def pr0:Tm:= .mk 10 0 (.mk 0 []) [.mk 4 0 (.mk 0 []) [],.mk 7 0 (.mk 0 []) []]
def PY:Tm:= .mk 11 0 (.mk 0 []) [pr0]
def zer0:Tm:= .mk 4 0 (.mk 0 []) []
def SN:Pf:= .mk 18 0 (.mk 0 []) [PY] [] []
theorem V4(f g:Fm)(hf:f.full<274877906944)(hg:g.full<274877906944):PC E 10 [.agg f.view,.agg g.view] (.i (LJ f g)):=by
 have h1:=wz f (by omega);have h2:=wz g (by omega);unfold LJ;by_cases ef:f.err=0;case neg=>
  rw[if_pos ef];refine M.F Tryz.func10 ?_;(repeat' first|refine M.gw ?_|refine M.c2 (h1) ?_|refine M.cs ?_ ?_<;>intro h|fail);all_goals first
   |rfl
   |(exfalso;simp at h;exact ef h)
 rw[ef] at h1;rw[if_neg (by simp[ef])];by_cases eg:g.err=0;case neg=>
  rw[if_pos eg];refine M.F Tryz.func10 ?_;(repeat' first|refine M.gw ?_|refine M.c2 (h1) ?_|refine M.c2 (h2) ?_|refine M.cs ?_ ?_<;>intro h|fail);all_goals first
   |rfl
   |(exfalso;simp at h;exact eg h)
 rw[eg] at h2;rw[if_neg (by simp[eg])];have h3:=Zw6 _ f g (Nat.le_refl _) hf hg ((Fm.Ad f).1 ef).1 ((Fm.Ad g).1 eg).1;refine M.F Tryz.func10 ?_;(repeat' first|refine M.gw ?_|refine M.c2 (h1) ?_|refine M.c2 (h2) ?_|refine M.c2 (h3) ?_|fail)
 rfl
theorem Zy4(a b:Tm):PC E 159 [.agg (AM a b).view] (.bool false):=by
 unfold AM;refine M.F Tryz.func159 ?_;(repeat' first|refine M.gw ?_|refine M.bl ?_|fail)
 rfl
theorem Rk{k:Int}:∀{l:List Int},k∉l->vn k l=none
 |[],_=>rfl
 |x::l,h=>by
  have h1:¬x=k:=fun e=>h (by simp[e]);have h2:k∉l:=fun hm=>h (by simp[hm]);simp only[vn,if_neg h1,Rk h2,Option.map_none]
theorem Qx{k:Int}:∀{l:List Int},k∈l->∃i,vn k l=some i
 |[],h=>by cases h
 |x::l,h=>by
  by_cases h1:x=k
  ·exact ⟨0,by simp only[vn,if_pos h1]⟩
  ·obtain ⟨i,hi⟩:=Qx (l:=l) (by
    rcases List.mem_cons.1 h with h2|h2
    ·exact absurd h2.symm h1
    ·exact h2)
   exact⟨i+1,by simp only[vn,if_neg h1,hi,Option.map_some]⟩
theorem Zxg(t:Tm)(b:Int)(hb:0<=b/\b<549755813888)(hs:t.shape=true)(hf:t.full<137438953472)(hC:∀q∈t.vars 0,q.1<=268435456):PC E 227 [.agg t.view,.i b] (.Ax [.agg (low b.toNat t).1.view,.bool (low b.toNat t).2]):=by
 have hbn:(b.toNat:Int)=b:=by omega
 refine M.F Tryz.func227 ?_;(repeat' first|refine M.gw ?_|fail);refine AW.range b.toNat (fun m=>∀j,j<m->cnt 0 ((CV j t).vars 0)=0)
  (fun m=>([(2,.ptr 0 0),(4,.ptr 1 0),(6,.i b),(7,.i m)],⟨2,[(0,.var (CV m t).view),(1,.var [.i 0,.i 0,.i 0,.slice .nil (.t .ty []),.slice .nil (.t .tm [])])]⟩))
  (by omega) (fun m=>rfl) (fun m=>by rw[<-hbn];rfl) rfl (by intro j hj;omega) (M.W [some 0,some 1]) ?_ ?_
 ·intro m hm hP;obtain⟨h1,h2,h3⟩:=OZ hs hC m hP;have hc:=UI (CV m t) 0 (by omega) fun p hp=>⟨(CV m t).AH h1 0 p hp,by have:=h3 p hp;omega⟩;have hp:=SE (CV m t) 0 va (by omega) (by decide) (by intro p hp;simp[va,Tm.vars,Tm.BF] at hp) (by omega) fun p hp=>⟨(CV m t).AH h1 0 p hp,by have:=h3 p hp;omega⟩;(repeat' first|refine M.gw ?_|refine M.c2 (hc) ?_|refine M.c2 (hp) ?_|refine M.cs ?_ ?_<;>intro h|fail)
  ·have e:low b.toNat t=(va,false):=by
    simp only[low];rw[if_neg];intro hc;have:=hc m hm;simp at h;omega
   rw[e];simp[zk,V.wk,V.Ak,zd,Ty.view,Tm.view,va]
  ·refine ⟨rfl,?_,(M.W [some 0,some 1])⟩;intro j hj;by_cases hjm:j=m
   ·subst hjm;simp at h;omega
   ·exact hP j (by omega)
 ·intro hP;have e:low b.toNat t=(CV b.toNat t,true):=by simp only[low];rw[if_pos hP]
  rw[e];(repeat' first|refine M.gw ?_|fail);simp[zk,V.wk,V.Ak,zd,Ty.view,Tm.view]
theorem Lu(a b:Int):(a==b)=decide (a=b):=by by_cases h:a=b<;>simp[h]
theorem Yev(ho:Int)(hh:0<=ho/\ho<=4096):∀(n:Nat) (p t:Tm) (m:vx) (b:Int),p.full<=n->n<137438953472->0<=b->b+n<274877906944->p.shape=true->t.shape=true->t.full<137438953472->
 (∀q∈p.vars 0,q.1<=268435456)->(∀q∈t.vars 0,q.1<=268435456)->
 AC E 168 [.ptr 0 0,.agg p.view,.agg t.view,.i b] ⟨2,[(0,.var [.i ho,.mp 1]),(1,.map .tm (m.map (·.1)) (m.map (·.2)))]⟩ (.bool (mT ho b p t m).1)
  ⟨2,[(0,.var [.i ho,.mp 1]),(1,.map .tm ((mT ho b p t m).2.map (·.1)) ((mT ho b p t m).2.map (·.2)))]⟩:=by
 intro n;induction n with
 |zero=>intro p;intros;have:=p.Ac;omega
 |succ n ih=>
 intro p t m b hsz hn hb hbn hps hts htf hpv htv;have hsz':=p.Af;have hlen:=zh Tm.full Tm.Ac p.args;have hmt:=Ll ho b p t m;have hpi:0<=p.index/\p.index<=268435456:=by
  have h0:=xo hps;by_cases hk:p.kind=1
  ·have h1:(p.index,(0:Int))∈p.vars 0:=by rw[p.AG,if_pos hk];simp
   exact⟨h0.1,hpv _ h1⟩
  ·have:=h0.2 hk;omega
 have hlow:=Zxg t b (by omega) hts htf htv;have hty:=I1 _ p.ty t.ty (Nat.le_refl _) (by omega);refine M.F Tryz.func168 ?_;(repeat' first|refine M.go ?_|refine M.z1 2 ?_|refine M.gk ?_|fail);refine AW.cut (ι:=Unit) (fun _=>([(0,.ptr 0 0),(3,.i b),(5,.ptr 2 0),(6,.ptr 3 0),(9,.i (p.index-b)),(34,.bool (decide (p.kind=1/\0<=p.index-b/\p.index-b<ho)))],⟨4,[(0,.var [.i ho,.mp 1]),(1,.map .tm (m.map (·.1)) (m.map (·.2))),(2,.var p.view),(3,.var t.view)]⟩)) ?_ ?_
 ·clear ih hmt hlow hty hpv htv hsz';(repeat' first|refine M.gw ?_|refine M.gs ?_ ?_<;>intro h|fail)
  ·rename_i h0;simp only[beq_iff_eq,decide_eq_true_eq] at h0 h;have e:decide (p.kind=1/\0<=p.index-b/\p.index-b<ho)=decide (p.index-b<ho):=decide_eq_decide.2 (by omega);rw[e];exact⟨(),(M.W [some 0,some 1,some 2,some 3])⟩
  ·simp only[decide_eq_false_iff_not] at h;have e:decide (p.kind=1/\0<=p.index-b/\p.index-b<ho)=false:=decide_eq_false (by omega);rw[e];exact⟨(),(M.W [some 0,some 1,some 2,some 3])⟩
  ·simp only[beq_eq_false_iff_ne,ne_eq] at h;have e:decide (p.kind=1/\0<=p.index-b/\p.index-b<ho)=false:=decide_eq_false (by omega);rw[e];exact⟨(),(M.W [some 0,some 1,some 2,some 3])⟩
 intro _;by_cases hhole:p.kind=1/\0<=p.index-b/\p.index-b<ho
 ·rw[if_pos hhole] at hmt;have hd:decide (p.kind=1/\0<=p.index-b/\p.index-b<ho)=true:=decide_eq_true hhole;rw[hd];by_cases hmem:(p.index-b)∈m.map (·.1)
  ·rw[if_pos hmem] at hmt;obtain⟨i,hi⟩:=Qx hmem;have hil:i<m.length:=by have:=(x3 hi).2;simpa using this
   have hc0:(m.map (·.2))[i]? =some (m[i]).2:=by rw[List.getElem?_map,List.getElem?_eq_getElem hil];rfl
   rw[hmt];(repeat' first|refine M.gw ?_|fail)
   (exact M.n2 [some 0,some 1] (h8:=(by simp[zk,V.wk,V.Ak,zd,Ty.view,Tm.view,hmt])))
  ·rw[if_neg hmem] at hmt;have hi:=Rk hmem;rw[hmt];(repeat' first|refine M.gw ?_|refine M.c2 (hlow) ?_|fail)
   (exact M.n2 [some 0,some 1] (h6:=(by(repeat'(first|exact trivial|refine And.intro ?_ ?_|refine⟨_,U,_,U,_,U,?_⟩|exact An.refl _|refine⟨_,U,_,_,U,?_,?_⟩|(simp[Al.Aw,hmt,vm,DX,hi];done)));done)) (h8:=(by simp[zk,V.wk,V.Ak,zd,Ty.view,Tm.view,hmt,vm,DX,hi])))
 rw[if_neg hhole] at hmt;have hd:decide (p.kind=1/\0<=p.index-b/\p.index-b<ho)=false:=decide_eq_false hhole;rw[hd];(repeat' first|refine M.go ?_|refine M.z1 9 ?_|refine M.gk ?_|fail);refine K.sq ?_;refine AW.cut (ι:=Unit) (fun _=>([(0,.ptr 0 0),(3,.i b),(5,.ptr 2 0),(6,.ptr 3 0),(70,.bool (!decide (p.kind=t.kind/\p.ty=t.ty)))],⟨4,[(0,.var [.i ho,.mp 1]),(1,.map .tm (m.map (·.1)) (m.map (·.2))),(2,.var p.view),(3,.var t.view)]⟩)) ?_ ?_
 ·clear ih hmt hlow hpv htv hsz';(repeat' first|refine M.gw ?_|refine M.c2 (hty) ?_|refine M.gs ?_ ?_<;>intro h|fail)
  ·have e:(!decide (p.kind=t.kind/\p.ty=t.ty))=true:=by
    simp only[bne_iff_ne,ne_eq] at h;simp[h]
   rw[e];exact⟨(),(M.W [some 0,some 1,some 2,some 3])⟩
  ·have e:(!decide (p.kind=t.kind/\p.ty=t.ty))= !decide (p.ty=t.ty):=by
    simp only[bne_eq_false_iff_eq] at h;simp[h]
   rw[e];exact⟨(),(M.W [some 0,some 1,some 2,some 3])⟩
 intro _;by_cases hne:¬(p.kind=t.kind/\p.ty=t.ty)
 ·rw[if_neg hne] at hmt;have hd2:(!decide (p.kind=t.kind/\p.ty=t.ty))=true:=by rw[decide_eq_false hne];rfl
  rw[hd2,hmt];(repeat' first|refine M.gw ?_|fail)
  (exact M.n2 [some 0,some 1] (h8:=(by simp[zk,V.wk,V.Ak,zd,Ty.view,Tm.view,hmt])))
 have heq:=Classical.not_not.1 hne;have hd2:(!decide (p.kind=t.kind/\p.ty=t.ty))=false:=by rw[decide_eq_true heq];rfl
 rw[if_pos heq] at hmt;rw[hd2];have hal:=Wl hps hts heq.1;by_cases hk1:p.kind=1
 ·rw[if_pos hk1] at hmt;have hti:0<=t.index/\t.index<=268435456:=by
   have h1:(t.index,(0:Int))∈t.vars 0:=by rw[t.AG,if_pos (heq.1▸hk1)];simp
   exact⟨(xo hts).1,htv _ h1⟩
  rw[hmt];(repeat' first|refine M.gw ?_|refine M.cs ?_ ?_<;>intro h|fail)
  ·have hle:b<=p.index:=by simpa using h
   (exact M.n2 [some 0,some 1] (h8:=(by simp[zk,V.wk,V.Ak,zd,Ty.view,Tm.view,hle,Lu])))
  ·have hle:¬b<=p.index:=by simpa using h
   (exact M.n2 [some 0,some 1] (h8:=(by simp[zk,V.wk,V.Ak,zd,Ty.view,Tm.view,hle,Lu])))
  ·exfalso;rename_i h0;simp[hk1] at h0
  ·exfalso;rename_i h0;simp[hk1] at h0
 rw[if_neg hk1] at hmt;rw[hmt];(repeat' first|refine M.gw ?_|refine M.cs ?_ ?_<;>intro h|fail)
 ·exfalso;rename_i h0;simp[hk1] at h0
 ·exfalso;rename_i h0;simp[hk1] at h0
 all_goals
  refine AW.range p.args.length (fun k=>(Bp ho (up p.kind b) (p.args.take k) (t.args.take k) m).1=true)
   (fun k=>([(0,.ptr 0 0),(3,.i (up p.kind b)),(5,.ptr 2 0),(6,.ptr 3 0),(99,.s .tm p.args),(100,.i p.args.length),(101,.i k)],⟨4,[(0,.var [.i ho,.mp 1]),(1,.map .tm ((Bp ho (up p.kind b) (p.args.take k) (t.args.take k) m).2.map (·.1)) ((Bp ho (up p.kind b) (p.args.take k) (t.args.take k) m).2.map (·.2))),(2,.var p.view),(3,.var t.view)]⟩))
   (by omega) (fun m=>rfl) (fun m=>rfl) rfl rfl ?_ ?_ ?_
  ·simp only[beq_iff_eq,beq_eq_false_iff_ne,ne_eq] at h;exact(M.W [some 0,some 1,some 2,some 3] (hf:=(by(repeat'(first|exact trivial|refine And.intro ?_ ?_|refine⟨_,U,_,U,?_⟩|exact An.refl _|exact An.of_eq (by simp[Al.Aw,up,h,Bp])));done)) (he:=(by(repeat'(first|exact trivial|refine And.intro ?_ ?_|refine⟨_,U,_,U,_,U,?_⟩|exact An.refl _|refine⟨_,U,_,_,U,?_,?_⟩|(simp[Al.Aw,up,h,Bp];done)));done)))
  ·intro k hk hP;have hk2:k<t.args.length:=by omega
   have hs2:=ze Tm.full (List.getElem_mem hk);have hs3:=ze Tm.full (List.getElem_mem hk2);have hs4:=t.Af;have hup:up p.kind b<=b+1:=by simp only[up];split<;>omega
   have hup0:0<=up p.kind b:=by simp only[up];split<;>omega
   have hc:=ih p.args[k] t.args[k] (Bp ho (up p.kind b) (p.args.take k) (t.args.take k) m).2 (up p.kind b) (by omega) (by omega) hup0 (by omega) (zg hps _ (List.getElem_mem hk)) (zg hts _ (List.getElem_mem hk2)) (by omega)
    (KD hpv (List.getElem_mem hk)) (KD htv (List.getElem_mem hk2))
   have htk:=TM (m:=m) hal hk hP;(repeat' first|refine M.gw ?_|refine M.cb (hc) [0,1] 0 ?_|refine M.cs ?_ ?_<;>intro h|fail)
   ·have h1:(mT ho (up p.kind b) p.args[k] t.args[k] (Bp ho (up p.kind b) (p.args.take k) (t.args.take k) m).2).1=false:=by simpa using h
    have e:=Wq (m:=m) hal hk hP h1;rw[e]
    (exact M.n2 [some 0,some 1] (h8:=(by simp[zk,V.wk,V.Ak,zd,Ty.view,Tm.view,h1])))
   ·have h1:(mT ho (up p.kind b) p.args[k] t.args[k] (Bp ho (up p.kind b) (p.args.take k) (t.args.take k) m).2).1=true:=by simpa using h
    refine⟨rfl,by simp only[htk];exact h1,?_⟩;simp only[htk];exact(M.W [some 0,some 1,some 2,some 3])
  ·intro hP;have e:Bp ho (up p.kind b) p.args t.args m=(true,(Bp ho (up p.kind b) p.args t.args m).2):=by
    have h1:=hP;rw[List.take_of_length_le (Nat.le_refl _),List.take_of_length_le (by omega)] at h1;exact Prod.ext h1 rfl
   rw[List.take_of_length_le (Nat.le_refl _),List.take_of_length_le (show t.args.length<=p.args.length by omega)];rw[e];(repeat' first|refine M.gw ?_|fail)
   (exact M.n2 [some 0,some 1] (h8:=(by simp[zk,V.wk,V.Ak,zd,Ty.view,Tm.view,e])))
theorem Yd5(ho:Int)(hh:0<=ho/\ho<=4096):∀(n:Nat) (p f:Fm) (m:vx) (b:Int),p.full<=n->n<68719476736->0<=b->b+n<137438953472->p.shape=true->f.shape=true->f.full<68719476736->
 p.AK=true->f.AK=true->
 AC E 100 [.ptr 0 0,.agg p.view,.agg f.view,.i b] ⟨2,[(0,.var [.i ho,.mp 1]),(1,.map .tm (m.map (·.1)) (m.map (·.2)))]⟩ (.bool (mF ho b p f m).1)
  ⟨2,[(0,.var [.i ho,.mp 1]),(1,.map .tm ((mF ho b p f m).2.map (·.1)) ((mF ho b p f m).2.map (·.2)))]⟩:=by
 intro n;induction n with
 |zero=>intro p;intros;have:=p.Ac;omega
 |succ n ih=>
 intro p f m b hsz hn hb hbn hps hfs hff hpv hfv;have hsz':=p.Af;have hlen:=zh Fm.full Fm.Ac p.args;have hlen2:=zh Tm.full Tm.Ac p.terms;have hff':=f.Af;have hmt:=KT ho b p f m;have hq:=vj p.kind;have hty:=I1 _ p.ty f.ty (Nat.le_refl _) (by omega);refine M.F Tryz.func100 ?_;(repeat' first|refine M.go ?_|refine M.z1 1 ?_|refine M.gk ?_|fail);refine K.sq ?_;refine AW.cut (ι:=Unit) (fun _=>([(0,.ptr 0 0),(3,.i b),(5,.ptr 2 0),(6,.ptr 3 0),(25,.bool (!decide (p.kind=f.kind/\p.ty=f.ty)))],⟨4,[(0,.var [.i ho,.mp 1]),(1,.map .tm (m.map (·.1)) (m.map (·.2))),(2,.var p.view),(3,.var f.view)]⟩)) ?_ ?_
 ·clear ih hmt hpv hfv hsz' hq hff';(repeat' first|refine M.gw ?_|refine M.c2 (hty) ?_|refine M.gs ?_ ?_<;>intro h|fail)
  ·have e:(!decide (p.kind=f.kind/\p.ty=f.ty))=true:=by
    simp only[bne_iff_ne,ne_eq] at h;simp[h]
   rw[e];exact⟨(),(M.W [some 0,some 1,some 2,some 3])⟩
  ·have e:(!decide (p.kind=f.kind/\p.ty=f.ty))= !decide (p.ty=f.ty):=by
    simp only[bne_eq_false_iff_eq] at h;simp[h]
   rw[e];exact⟨(),(M.W [some 0,some 1,some 2,some 3])⟩
 intro _;by_cases hne:¬(p.kind=f.kind/\p.ty=f.ty)
 ·rw[if_neg hne] at hmt;have hd2:(!decide (p.kind=f.kind/\p.ty=f.ty))=true:=by rw[decide_eq_false hne];rfl
  rw[hd2,hmt];(repeat' first|refine M.gw ?_|fail)
  (exact M.n2 [some 0,some 1] (h8:=(by simp[zk,V.wk,V.Ak,zd,Ty.view,Tm.view,hmt])))
 have heq:=Classical.not_not.1 hne;have hd2:(!decide (p.kind=f.kind/\p.ty=f.ty))=false:=by rw[decide_eq_true heq];rfl
 rw[if_pos heq] at hmt;rw[hd2];have hal:=QA hps hfs heq.1;(repeat' first|refine M.gw ?_|fail);refine AW.range p.terms.length (fun k=>(Bp ho b (p.terms.take k) (f.terms.take k) m).1=true)
  (fun k=>([(0,.ptr 0 0),(3,.i b),(5,.ptr 2 0),(6,.ptr 3 0),(27,.s .tm p.terms),(28,.i p.terms.length),(29,.i k)],⟨4,[(0,.var [.i ho,.mp 1]),(1,.map .tm ((Bp ho b (p.terms.take k) (f.terms.take k) m).2.map (·.1)) ((Bp ho b (p.terms.take k) (f.terms.take k) m).2.map (·.2))),(2,.var p.view),(3,.var f.view)]⟩))
  (by omega) (fun m=>rfl) (fun m=>rfl) U U (M.W [some 0,some 1,some 2,some 3] (he:=(by(repeat'(first|exact trivial|refine And.intro ?_ ?_|refine⟨_,U,_,U,_,U,?_⟩|exact An.refl _|refine⟨_,U,_,_,U,?_,?_⟩|(simp[Al.Aw,Bp];done)));done))) ?_ ?_
 ·intro k hk hP;have hk2:k<f.terms.length:=by omega
  have hs2:=ze Tm.full (List.getElem_mem hk);have hs3:=ze Tm.full (List.getElem_mem hk2);have hc:=Yev ho hh _ p.terms[k] f.terms[k] (Bp ho b (p.terms.take k) (f.terms.take k) m).2 b (Nat.le_refl _) (by omega) hb (by omega) (zw hps (List.getElem_mem hk)) (zw hfs (List.getElem_mem hk2)) (by omega)
   (Ml hpv (List.getElem_mem hk)) (Ml hfv (List.getElem_mem hk2))
  have htk:=TM (m:=m) hal.1 hk hP;(repeat' first|refine M.gw ?_|refine M.cb (hc) [0,1] 0 ?_|refine M.cs ?_ ?_<;>intro h|fail)
  ·have h1:(mT ho b p.terms[k] f.terms[k] (Bp ho b (p.terms.take k) (f.terms.take k) m).2).1=false:=by simpa using h
   have e:=Wq (m:=m) hal.1 hk hP h1;rw[e] at hmt;rw[hmt]
   (exact M.n2 [some 0,some 1] (h8:=(by simp[zk,V.wk,V.Ak,zd,Ty.view,Tm.view,h1])))
  ·have h1:(mT ho b p.terms[k] f.terms[k] (Bp ho b (p.terms.take k) (f.terms.take k) m).2).1=true:=by simpa using h
   refine⟨rfl,by simp only[htk];exact h1,?_⟩;simp only[htk];exact(M.W [some 0,some 1,some 2,some 3])
 intro hP;rw[List.take_of_length_le (Nat.le_refl _),List.take_of_length_le (by omega)] at hP;rw[List.take_of_length_le (Nat.le_refl _),List.take_of_length_le (show f.terms.length<=p.terms.length by omega)];have e1:Bp ho b p.terms f.terms m=(true,(Bp ho b p.terms f.terms m).2):=Prod.ext hP rfl;have hmt2:mF ho b p f m=B6 ho (AB p.kind b) p.args f.args (Bp ho b p.terms f.terms m).2:=by rw[hmt,e1]
 rw[hmt2];(repeat' first|refine M.gw ?_|refine M.c2 (hq) ?_|refine M.cs ?_ ?_<;>intro h|fail);all_goals
  refine AW.range p.args.length (fun k=>(B6 ho (AB p.kind b) (p.args.take k) (f.args.take k) (Bp ho b p.terms f.terms m).2).1=true)
   (fun k=>([(0,.ptr 0 0),(3,.i (AB p.kind b)),(5,.ptr 2 0),(6,.ptr 3 0),(51,.s .fm p.args),(52,.i p.args.length),(53,.i k)],⟨4,[(0,.var [.i ho,.mp 1]),(1,.map .tm ((B6 ho (AB p.kind b) (p.args.take k) (f.args.take k) (Bp ho b p.terms f.terms m).2).2.map (·.1)) ((B6 ho (AB p.kind b) (p.args.take k) (f.args.take k) (Bp ho b p.terms f.terms m).2).2.map (·.2))),(2,.var p.view),(3,.var f.view)]⟩))
   (by omega) (fun m=>rfl) (fun m=>rfl) rfl rfl ?_ ?_ ?_
  ·exact (M.W [some 0,some 1,some 2,some 3] (hf:=(by(repeat'(first|exact trivial|refine And.intro ?_ ?_|refine⟨_,U,_,U,?_⟩|exact An.refl _|exact An.of_eq (by simp[Al.Aw,AB,h,B6])));done)) (he:=(by(repeat'(first|exact trivial|refine And.intro ?_ ?_|refine⟨_,U,_,U,_,U,?_⟩|exact An.refl _|refine⟨_,U,_,_,U,?_,?_⟩|(simp[Al.Aw,AB,h,B6];done)));done)))
  ·intro k hk hP;have hk2:k<f.args.length:=by omega
   have hs2:=ze Fm.full (List.getElem_mem hk);have hs3:=ze Fm.full (List.getElem_mem hk2);have hup:AB p.kind b<=b+1:=by simp only[AB];split<;>omega
   have hup0:0<=AB p.kind b:=by simp only[AB];split<;>omega
   have hc:=ih p.args[k] f.args[k] (B6 ho (AB p.kind b) (p.args.take k) (f.args.take k) (Bp ho b p.terms f.terms m).2).2 (AB p.kind b) (by omega) (by omega) hup0 (by omega) (zl hps (List.getElem_mem hk)) (zl hfs (List.getElem_mem hk2)) (by omega)
    (L8 hpv (List.getElem_mem hk)) (L8 hfv (List.getElem_mem hk2))
   have htk:=Zy1 (m:=(Bp ho b p.terms f.terms m).2) hal.2 hk hP;(repeat' first|refine M.gw ?_|refine M.cb (hc) [0,1] 0 ?_|refine M.cs ?_ ?_<;>intro h|fail)
   ·have h1:(mF ho (AB p.kind b) p.args[k] f.args[k] (B6 ho (AB p.kind b) (p.args.take k) (f.args.take k) (Bp ho b p.terms f.terms m).2).2).1=false:=by simpa using h
    have e:=Zzw (m:=(Bp ho b p.terms f.terms m).2) hal.2 hk hP h1;rw[e]
    (exact M.n2 [some 0,some 1] (h8:=(by simp[zk,V.wk,V.Ak,zd,Ty.view,Tm.view,h1])))
   ·have h1:(mF ho (AB p.kind b) p.args[k] f.args[k] (B6 ho (AB p.kind b) (p.args.take k) (f.args.take k) (Bp ho b p.terms f.terms m).2).2).1=true:=by simpa using h
    refine⟨rfl,by simp only[htk];exact h1,?_⟩;simp only[htk];exact(M.W [some 0,some 1,some 2,some 3])
  ·intro hP;have e:B6 ho (AB p.kind b) p.args f.args (Bp ho b p.terms f.terms m).2=(true,(B6 ho (AB p.kind b) p.args f.args (Bp ho b p.terms f.terms m).2).2):=by
    have h1:=hP;rw[List.take_of_length_le (Nat.le_refl _),List.take_of_length_le (by omega)] at h1;exact Prod.ext h1 rfl
   rw[List.take_of_length_le (Nat.le_refl _),List.take_of_length_le (show f.args.length<=p.args.length by omega)];rw[e];(repeat' first|refine M.gw ?_|fail)
   (exact M.n2 [some 0,some 1] (h8:=(by simp[zk,V.wk,V.Ak,zd,Ty.view,Tm.view,e])))
abbrev mE(ho:Int)(s:De):Es:=[(0,.var [.i ho,.mp 1,.bool s.2]),(1,.map .tm (s.1.map (·.1)) (s.1.map (·.2)))]
theorem Yfh(ho k b:Int)(t:Tm)(s:De)(hb:0<=b/\b<137438953472)(hs:t.shape=true)(hf:t.full<137438953472)(hC:∀q∈t.vars 0,q.1<=268435456):
 AC E 240 [.ptr 0 0,.i k,.agg t.view,.i b] ⟨2,mE ho s⟩ (.Ax []) ⟨2,mE ho (rH k b t s)⟩:=by
 have hbn:(b.toNat:Int)=b:=by omega
 obtain⟨m,bad⟩:=s;have hnn:=t.AH hs 0;by_cases hmem:k∈m.map (·.1)
 ·obtain ⟨i,hi⟩:=Qx hmem;have hil:i<m.length:=by have:=(x3 hi).2;simpa using this
  have hc0:(m.map (·.2))[i]? =some (m[i]).2:=by rw[List.getElem?_map,List.getElem?_eq_getElem hil];rfl
  have e:rH k b t (m,bad)=(m,bad):=by simp only[rH];rw[if_pos hmem]
  rw[e];refine M.F Tryz.func240 ?_;(repeat' first|refine M.gw ?_|fail)
  (exact M.n2 [some 0,some 1] (h8:=(by simp[zk,V.wk,V.Ak,zd,Ty.view,Tm.view,e])))
 ·have hi:=Rk hmem;have hup:=K7 (-b) (by omega) _ t b (Nat.le_refl _) (by omega) (by omega) (by omega) hs fun p hp=>⟨hnn p hp,by have:=hC p hp;omega⟩;have hupf:(t.re (zn b (-b)) 0).full=t.full:=wj b (-b) t 0 hs;have hcp:=wu _ (t.re (zn b (-b)) 0) (Nat.le_refl _) (by omega);refine M.F Tryz.func240 ?_;(repeat' first|refine M.gw ?_|fail);refine AW.block (AW.upto b.toNat (fun n=>∀j:Nat,j<n->cnt j (t.vars 0)=0)
   (fun n=>([(0,.ptr 0 0),(1,.i k),(3,.i b),(6,.ptr 2 0),(10,.i n)],⟨3,[(0,.var [.i ho,.mp 1,.bool bad]),(1,.map .tm (m.map (·.1)) (m.map (·.2))),(2,.var t.view)]⟩))
   (fun j hj=>by omega) (M.W [some 0,some 1,some 2]) fun n hn hP=> ?_)
  by_cases hlt:n<b.toNat
  ·have hd:decide ((n:Int)<b)=true:=decide_eq_true (by omega);have hc:=RE _ t n (Nat.le_refl _) (by omega) (by omega) (by omega) hs;have htp:=Zr9 (at_:=n) hs;by_cases hx:yq n t≠0
   ·have e:rH k b t (m,bad)=(m,true):=by
     simp only[rH];rw[if_neg hmem,if_neg];intro hall;exact(htp.1 hx) (hall n hlt)
    rw[decide_eq_true hx] at hc;rw[e];(repeat' first|refine M.go ?_|refine M.z1 6 ?_|refine M.zb ?_|refine M.cs ?_ ?_<;>intro h|refine M.gk ?_|fail);all_goals first
     |(exfalso;simp at h;omega)
     |skip
    (repeat' first|refine M.gw ?_|refine M.c2 (hc) ?_|fail)
    (exact M.n2 [some 0,some 1] (h8:=(by simp[zk,V.wk,V.Ak,zd,Ty.view,Tm.view,e])))
   ·rw[decide_eq_false hx] at hc;(repeat' first|refine M.go ?_|refine M.z1 6 ?_|refine M.zb ?_|refine M.cs ?_ ?_<;>intro h|refine M.gk ?_|fail);all_goals first
     |(exfalso;simp at h;omega)
     |skip
    (repeat' first|refine M.gw ?_|refine M.c2 (hc) ?_|fail);refine⟨hlt,fun j hj=> ?_,(M.W [some 0,some 1,some 2])⟩;by_cases hjn:j=n
    ·subst hjn;apply Classical.byContradiction;intro hc2;exact hx (htp.2 hc2)
    ·exact hP j (by omega)
  ·obtain rfl:n=b.toNat:=by omega
   have e:rH k b t (m,bad)=(m++[(k,t.re (zn b (-b)) 0)],bad):=by
    simp only[rH];rw[if_neg hmem,if_pos hP]
   rw[e];(repeat' first|refine M.gw ?_|refine M.c2 (hup) ?_|refine M.c2 (hcp) ?_|refine M.zb ?_|refine M.cs ?_ ?_<;>intro h|fail);all_goals first
    |(exfalso;simp at h;omega)
    |skip
   (exact M.n2 [some 0,some 1] (h6:=(by(repeat'(first|exact trivial|refine And.intro ?_ ?_|refine⟨_,U,_,U,_,U,?_⟩|exact An.refl _|refine⟨_,U,_,_,U,?_,?_⟩|(simp[Al.Aw,e,vm,DX,hi];done)));done)) (h8:=(by simp[zk,V.wk,V.Ak,zd,Ty.view,Tm.view,e,vm,DX,hi])))
theorem Yei(ho:Int)(hh:0<=ho/\ho<=4096):∀(n:Nat) (p t:Tm) (s:De) (b:Int),p.full<=n->n<34359738368->0<=b->b+n<68719476736->p.shape=true->t.shape=true->t.full<137438953472->
 (∀q∈p.vars 0,q.1<=268435456)->(∀q∈t.vars 0,q.1<=268435456)->
 AC E 199 [.ptr 0 0,.agg p.view,.agg t.view,.i b] ⟨2,mE ho s⟩ (.Ax []) ⟨2,mE ho (rT ho b p t s)⟩:=by
 intro n;induction n with
 |zero=>intro p;intros;have:=p.Ac;omega
 |succ n ih=>
 intro p t s b hsz hn hb hbn hps hts htf hpv htv;have hsz':=p.Af;have hlen:=zh Tm.full Tm.Ac p.args;have he:=OE ho b p t s;have hpi:0<=p.index/\p.index<=268435456:=by
  have h0:=xo hps;by_cases hk:p.kind=1
  ·have h1:(p.index,(0:Int))∈p.vars 0:=by rw[p.AG,if_pos hk];simp
   exact⟨h0.1,hpv _ h1⟩
  ·have:=h0.2 hk;omega
 have hty:=y4 _ p.ty t.ty (Nat.le_refl _) (by omega);have hup:=JQ p.kind b;obtain⟨m0,bad⟩:=s;cases bad with
 |true=>
  rw[if_pos rfl] at he;rw[he];refine M.F Tryz.func199 ?_;(repeat' first|refine M.gw ?_|fail)
  (exact M.n2 [some 0,some 1] (h8:=(by simp[zk,V.wk,V.Ak,zd,Ty.view,Tm.view,he])))
 |false=>
 rw[if_neg (show ¬(m0,false).2=true by simp)] at he;refine M.F Tryz.func199 ?_;(repeat' first|refine M.go ?_|refine M.z1 2 ?_|refine M.gk ?_|fail);by_cases hole:p.kind=1/\b<=p.index/\p.index<b+ho
 ·rw[if_pos hole] at he;have hc:=Yfh ho (p.index-b) b t (m0,false) (by omega) hts htf htv;rw[he];clear ih hpv htv;(repeat' first|refine M.go ?_|refine M.cb (hc) [0,1] 0 ?_|refine M.gs ?_ ?_<;>intro h|refine M.z1 4 ?_|refine M.cs ?_ ?_<;>intro h|refine M.gk ?_|fail);all_goals first|exact M.n2 [some 0,some 1] (h8:=(by simp[zk,V.wk,V.Ak,zd,Ty.view,Tm.view,he]))|exfalso;simp at*;omega
 rw[if_neg hole] at he;refine AW.cut (ι:=Unit) (fun _=>([(0,.ptr 0 0),(3,.i b),(5,.ptr 2 0),(6,.ptr 3 0)],⟨4,[(0,.var [.i ho,.mp 1,.bool false]),(1,.map .tm (m0.map (·.1)) (m0.map (·.2))),(2,.var p.view),(3,.var t.view)]⟩)) ?_ ?_
 ·clear ih he hty hpv htv hsz';(repeat' first|refine M.gw ?_|refine M.gs ?_ ?_<;>intro h|refine M.cs ?_ ?_<;>intro h|fail);all_goals first
   |(exfalso;simp at*;omega)
   |exact⟨(),(M.W [some 0,some 1,some 2,some 3])⟩
 intro _;(repeat' first|refine M.go ?_|refine M.z1 5 ?_|refine M.gk ?_|fail);refine AW.cut (ι:=Unit) (fun _=>([(0,.ptr 0 0),(3,.i b),(5,.ptr 2 0),(6,.ptr 3 0),(8,.i (if p.kind=1/\b+ho<=p.index then p.index-ho else p.index))],⟨4,[(0,.var [.i ho,.mp 1,.bool false]),(1,.map .tm (m0.map (·.1)) (m0.map (·.2))),(2,.var p.view),(3,.var t.view)]⟩)) ?_ ?_
 ·clear ih he hty hpv htv hsz';(repeat' first|refine M.gw ?_|refine M.gs ?_ ?_<;>intro h|refine M.cs ?_ ?_<;>intro h|fail)
  ·have e:(if p.kind=1/\b+ho<=p.index then p.index-ho else p.index)=p.index-ho:=if_pos (by simp at*;omega);rw[e];exact⟨(),(M.W [some 0,some 1,some 2,some 3])⟩
  ·have e:(if p.kind=1/\b+ho<=p.index then p.index-ho else p.index)=p.index:=if_neg (by simp at*;omega);rw[e];exact⟨(),(M.W [some 0,some 1,some 2,some 3])⟩
  ·have e:(if p.kind=1/\b+ho<=p.index then p.index-ho else p.index)=p.index:=if_neg (by simp at*;omega);rw[e];exact⟨(),(M.W [some 0,some 1,some 2,some 3])⟩
 intro _;generalize (if p.kind=1/\b+ho<=p.index then p.index-ho else p.index)=x at he;by_cases hr:p.kind=t.kind/\x=t.index/\p.ty=t.ty/\p.args.length=t.args.length;case neg=>
  rw[if_neg hr] at he;rw[he];clear ih hpv htv hsz';(repeat' first|refine M.go ?_|refine M.c2 (hty) ?_|refine M.gs ?_ ?_<;>intro h|refine M.z1 9 ?_|refine M.cs ?_ ?_<;>intro h|refine M.gk ?_|fail);all_goals first|exact M.n2 [some 0,some 1] (h8:=(by simp[zk,V.wk,V.Ak,zd,Ty.view,Tm.view,he]))|exfalso;simp at*;omega|exfalso;simp at*;exact hr (by assumption) (by assumption) (by assumption) (by omega)
 rw[if_pos hr] at he;obtain⟨hr1,hr2,hr3,hr4⟩:=hr;refine AW.cut (ι:=Unit) (fun _=>([(0,.ptr 0 0),(3,.i b),(5,.ptr 2 0),(6,.ptr 3 0)],⟨4,[(0,.var [.i ho,.mp 1,.bool false]),(1,.map .tm (m0.map (·.1)) (m0.map (·.2))),(2,.var p.view),(3,.var t.view)]⟩)) ?_ ?_
 ·clear ih he hpv htv hsz';(repeat' first|refine M.gw ?_|refine M.c2 (hty) ?_|refine M.gs ?_ ?_<;>intro h|refine M.cs ?_ ?_<;>intro h|fail);all_goals first
   |exact⟨(),(M.W [some 0,some 1,some 2,some 3])⟩
   |(exfalso;simp at*;omega)
   |(exfalso;simp at*;contradiction)
 intro _;refine AW.cut (ι:=Unit) (fun _=>([(0,.ptr 0 0),(3,.i (up p.kind b)),(5,.ptr 2 0),(6,.ptr 3 0)],⟨4,[(0,.var [.i ho,.mp 1,.bool false]),(1,.map .tm (m0.map (·.1)) (m0.map (·.2))),(2,.var p.view),(3,.var t.view)]⟩)) ?_ ?_
 ·clear ih he hpv htv hsz';(repeat' first|refine M.gw ?_|refine M.cs ?_ ?_<;>intro h|fail)
  ·have e:up p.kind b=b+1:=if_pos (by simpa using h);rw[e];exact⟨(),(M.W [some 0,some 1,some 2,some 3])⟩
  ·have e:up p.kind b=b:=if_neg (by simpa using h);rw[e];exact⟨(),(M.W [some 0,some 1,some 2,some 3])⟩
 intro _;(repeat' first|refine M.gw ?_|fail);refine AW.range p.args.length (fun k=>True)
  (fun k=>([(0,.ptr 0 0),(3,.i (up p.kind b)),(5,.ptr 2 0),(6,.ptr 3 0),(101,.s .tm p.args),(102,.i p.args.length),(103,.i k)],⟨4,[(0,.var [.i ho,.mp 1,.bool (Cd ho (up p.kind b) (p.args.take k) (t.args.take k) (m0,false)).2]),(1,.map .tm ((Cd ho (up p.kind b) (p.args.take k) (t.args.take k) (m0,false)).1.map (·.1)) ((Cd ho (up p.kind b) (p.args.take k) (t.args.take k) (m0,false)).1.map (·.2))),(2,.var p.view),(3,.var t.view)]⟩))
  (by omega) (fun m=>rfl) (fun m=>rfl) U trivial (M.W [some 0,some 1,some 2,some 3] (he:=(by(repeat'(first|exact trivial|refine And.intro ?_ ?_|refine⟨_,U,_,U,_,U,?_⟩|exact An.refl _|refine⟨_,U,_,_,U,?_,?_⟩|(simp[Al.Aw,Cd];done)));done))) ?_ ?_
 ·intro k hk _;have hk2:k<t.args.length:=by omega
  have hs2:=ze Tm.full (List.getElem_mem hk);have hs3:=ze Tm.full (List.getElem_mem hk2);have hs4:=t.Af;have hc:=ih p.args[k] t.args[k] (Cd ho (up p.kind b) (p.args.take k) (t.args.take k) (m0,false)) (up p.kind b) (by omega) (by omega) (by omega) (by omega) (zg hps _ (List.getElem_mem hk)) (zg hts _ (List.getElem_mem hk2)) (by omega)
   (KD hpv (List.getElem_mem hk)) (KD htv (List.getElem_mem hk2))
  have htk:=OM ho (up p.kind b) p.args t.args (m0,false) k hk hk2;generalize Cd ho (up p.kind b) (p.args.take k) (t.args.take k) (m0,false)=s at hc htk;(repeat' first|refine M.gw ?_|refine M.cb (hc) [0,1] 0 ?_|fail);refine⟨rfl,trivial,?_⟩;simp only[htk];exact(M.W [some 0,some 1,some 2,some 3])
 ·intro _;rw[List.take_of_length_le (Nat.le_refl _),List.take_of_length_le (show t.args.length<=p.args.length by omega)];rw[he];skip
  (exact M.n2 [some 0,some 1] (h8:=(by simp[zk,V.wk,V.Ak,zd,Ty.view,Tm.view,he])))
theorem Yff(at_:Int)(s:Tm)(hat:0<=at_/\at_<137438953472)(hs:s.shape=true)(hsf:s.full<137438953472)(hsi:∀p∈s.vars 0,0<=p.1/\p.1<274877906944):∀(n:Nat) (f:Fm) (dp:Int),f.full<=n->n<137438953472->0<=dp->dp+n<274877906944->f.shape=true->(∀p∈f.AU 0,∀q∈p.1.vars 0,0<=q.1/\q.1<274877906944)->
 PC E 119 [.agg f.view,.i at_,.i dp,.agg s.view] (.agg (f.re (fun b t=>t.re (xm at_ s) b) dp).view):=by
 intro n;induction n with
 |zero=>intro f dp h;have:=f.Ac;omega
 |succ n ih=>
 intro f dp hsz hn h1 h2 hf hix;have hsz':=f.Af;have hlen:=zh Fm.full Fm.Ac f.args;have hlen2:=zh Tm.full Tm.Ac f.terms;have hup:=H8 f.kind dp;have hpl:=Ng f.kind dp;have hb:=Nh f;have he:=Fm.Bn (fun b t=>t.re (xm at_ s) b) dp f;have htm:=f.AR 0;refine M.F Tryz.func119 ?_;(repeat' first|refine M.gw ?_|fail);refine AW.range f.terms.length (fun m=>True) (fun m=>([(1,.i at_),(2,.i dp),(4,.ptr 0 0),(7,.ptr 1 0),(8,.ptr 2 0),(9,.ptr 3 0),(20,.s .tm f.terms),(21,.i f.terms.length),(22,.i m)],⟨5,[(0,.var f.view),(1,.var s.view),(2,.var [.i 0,.i 0,.slice .nil (.t .ty []),.slice .nil (.t .tm []),.slice .nil (.t .fm [])]),(3,.var [.i f.kind,.i f.ty.kind,.s .ty f.ty.args,.slice (.own 4) (.t .tm ((f.terms.take m).map fun t=>t.re (xm at_ s) dp)),.slice .nil (.t .fm [])]),(4,.row)]⟩))
  (by omega) (fun m=>rfl) (fun m=>rfl) rfl trivial (M.W [some 0,some 1,some 2,some 3,none]) ?_ ?_
 ·intro m hm _;have hs2:=ze Tm.full (List.getElem_mem hm);have hc:=Vg at_ s hat hs hsf hsi _ f.terms[m] dp (Nat.le_refl _) (by omega) (by omega) (by omega) (zw hf (List.getElem_mem hm)) (fun p hp=>hix (f.terms[m],0) (by rw[htm];exact List.mem_append_left _ (List.mem_map.2 ⟨_,List.getElem_mem hm,rfl⟩)) p hp);(repeat' first|refine M.gw ?_|refine M.c2 (hc) ?_|fail);exact⟨rfl,trivial,(M.W [some 0,some 1,some 2,some 3,some 6] (he:=(by(repeat'(first|exact trivial|exact Or.inr ⟨_,U,rfl⟩|refine And.intro ?_ ?_|refine⟨_,U,_,U,_,U,?_⟩|exact An.refl _|exact An.of_eq (by simp[Al.Aw,yn _ _ _ hm])));done)))⟩
 ·intro _;simp only[List.take_length];(repeat' first|refine M.gw ?_|fail);refine AW.range f.args.length (fun m=>True) (fun m=>([(1,.i at_),(2,.i dp),(4,.ptr 0 0),(7,.ptr 1 0),(8,.ptr 2 0),(9,.ptr 3 0),(38,.s .fm f.args),(39,.i f.args.length),(40,.i m)],⟨6,[(0,.var f.view),(1,.var s.view),(2,.var [.i 0,.i 0,.slice .nil (.t .ty []),.slice .nil (.t .tm []),.slice .nil (.t .fm [])]),(3,.var [.i f.kind,.i f.ty.kind,.s .ty f.ty.args,.slice (.own 4) (.t .tm (f.terms.map fun t=>t.re (xm at_ s) dp)),.slice (.own 5) (.t .fm ((f.args.take m).map fun x=>x.re (fun b t=>t.re (xm at_ s) b) (AB f.kind dp)))]),(4,.row),(5,.row)]⟩))
   (by omega) (fun m=>rfl) (fun m=>rfl) rfl trivial (M.W [some 0,some 1,some 2,some 3,some 4,none]) ?_ ?_
  ·intro m hm _;have hs2:=ze Fm.full (List.getElem_mem hm);have hc:=ih f.args[m] (AB f.kind dp) (by omega) (by omega) (by omega) (by omega) (zl hf (List.getElem_mem hm)) (fun p hp q hq=>by
    obtain⟨p',hp',hpe⟩:=O1 (b':=AB f.kind 0) p hp;rw[<-hpe] at hq;exact hix p' (by rw[htm];exact List.mem_append_right _ (List.mem_flatMap.2 ⟨_,List.getElem_mem hm,hp'⟩)) q hq)
   rw[<-hpl] at hc;simp only[<-hpl];(repeat' first|refine M.gw ?_|refine M.c2 (hb) ?_|refine M.c2 (hc) ?_|fail);exact⟨rfl,trivial,(M.W [some 0,some 1,some 2,some 3,some 4,some 7] (he:=(by(repeat'(first|exact trivial|exact Or.inr ⟨_,U,rfl⟩|refine And.intro ?_ ?_|refine⟨_,U,_,U,_,U,?_⟩|exact An.refl _|exact An.of_eq (by simp[Al.Aw,yn _ _ _ hm])));done)))⟩
  ·intro _;simp only[List.take_length];(repeat' first|refine M.gw ?_|fail);rw[he]
   rfl
theorem Sl(f:Fm)(at_:Int)(s:Tm)(hf:f.full<549755813888)(hs:s.full<549755813888):PC E 59 [.agg f.view,.i at_,.agg s.view] (.Ax [.agg (if ye f at_ s=0 then f.put at_ s else Az).view,.i (ye f at_ s)]):=by
 have h1:=wz f hf;have h2:=vi s (by omega);by_cases he:f.err=0;case neg=>
  have e:ye f at_ s=f.err:=by simp only[ye];rw[if_pos he]
  rw[e,if_neg he];refine M.F Tryz.func59 ?_;(repeat' first|refine M.go ?_|refine M.c2 (h1) ?_|refine M.z1 4 ?_|refine M.cs ?_ ?_<;>intro h|refine M.gk ?_|fail);all_goals first
   |rfl
   |(exfalso;simp at h;exact he h)
 rw[he] at h1;by_cases ha:0<=at_/\at_<=4096;case neg=>
  have e:ye f at_ s=1:=by simp only[ye];rw[if_neg (by simp[he]),if_pos ha]
  rw[e,if_neg (by decide)];refine M.F Tryz.func59 ?_;(repeat' first|refine M.go ?_|refine M.c2 (h1) ?_|refine M.gs ?_ ?_<;>intro h|refine M.z1 6 ?_|refine M.cs ?_ ?_<;>intro h|refine M.gk ?_|fail);all_goals first
   |rfl
   |(exfalso;simp at h;omega)
   |(exfalso;simp at*;omega)
 by_cases hse:s.err=0;case neg=>
  have e:ye f at_ s=s.err:=by simp only[ye];rw[if_neg (by simp[he]),if_neg (by simp;omega),if_pos hse]
  rw[e,if_neg hse];refine M.F Tryz.func59 ?_;(repeat' first|refine M.go ?_|refine M.c2 (h1) ?_|refine M.c2 (h2) ?_|refine M.gs ?_ ?_<;>intro h|refine M.z2 5 9 ?_|refine M.cs ?_ ?_<;>intro h|refine M.gk ?_|fail);all_goals first
   |rfl
   |(exfalso;simp at h;omega)
   |(exfalso;simp at*;omega)
   |(exfalso;simp at h;exact hse h)
 rw[hse] at h2;obtain⟨hfs,hfz⟩:=(Fm.Ad f).1 he;obtain⟨hss,hsz⟩:=y5 hse;have hff:=z9 he;have hsf:=yl hse;have h3:=Qd 536870912 (by omega) _ f (Nat.le_refl _) (by omega) hfs;have h4:=MC 536870912 (by omega) _ s (Nat.le_refl _) (by omega) hss;rw[<-Zoq] at h3;rw[<-NC] at h4;by_cases hn:f.near=true/\s.near=true;case neg=>
  have hn':f.near=false\/s.near=false:=by
   cases h5:f.near with
   |false=>exact .inl rfl
   |true=>cases h6:s.near with
    |false=>exact .inr rfl
    |true=>exact absurd ⟨h5,h6⟩ hn
  have e:ye f at_ s=1:=by simp only[ye];rw[if_neg (by simp[he]),if_neg (by simp;omega),if_neg (by simp[hse]),if_pos hn']
  rw[e,if_neg (by decide)];cases h5:f.near with
  |false=>
   rw[h5] at h3;refine M.F Tryz.func59 ?_;(repeat' first|refine M.go ?_|refine M.c2 (h1) ?_|refine M.c2 (h2) ?_|refine M.c2 (h3) ?_|refine M.gs ?_ ?_<;>intro h|refine M.z1 5 ?_|refine M.cs ?_ ?_<;>intro h|refine M.gk ?_|fail);all_goals first
    |rfl
    |(exfalso;simp at h;omega)
    |(exfalso;simp at*;omega)
  |true=>
   have h6:s.near=false:=hn'.resolve_left (by simp[h5]);rw[h5] at h3;rw[h6] at h4;refine M.F Tryz.func59 ?_;(repeat' first|refine M.go ?_|refine M.c2 (h1) ?_|refine M.c2 (h2) ?_|refine M.c2 (h3) ?_|refine M.c2 (h4) ?_|refine M.gs ?_ ?_<;>intro h|refine M.z1 5 ?_|refine M.cs ?_ ?_<;>intro h|refine M.gk ?_|fail);all_goals first
    |rfl
    |(exfalso;simp at h;omega)
    |(exfalso;simp at*;omega)
 obtain⟨hn1,hn2⟩:=hn;rw[hn1] at h3;rw[hn2] at h4;have h5:=N9 _ f (Nat.le_refl _) (by omega);have h6:=Zv4 _ f at_ (Nat.le_refl _) (by omega) (by omega) (by omega) hfs;have h7:=yx _ s (Nat.le_refl _) (by omega);have htl:=Q2 at_ f;have hsp:=s.size_pos;have hsl:=s.Aj;have hfl:=f.Aj;have hm:=Py (y9 at_ f) (s.size-1) (by omega) (by omega);have hm': -9223372036854775808<=(y9 at_ f:Int)*(s.size-1)/\(y9 at_ f:Int)*(s.size-1)<=9223372036854775807:=by omega
 have ee:ye f at_ s=if(f.size:Int)+y9 at_ f*(s.size-1)>4096 then 4 else 0:=by
  simp only[ye,y9];rw[if_neg (by simp[he]),if_neg (by simp;omega),if_neg (by simp[hse]),if_neg (by simp[hn1,hn2])]
  rfl
 have hput:f.put at_ s=f.re (fun b t=>t.re (xm at_ s) b) 0:=Ycl at_ s 0 f;have h8:=Yff at_ s (by omega) hss (by omega) (fun p hp=>⟨s.AH hss 0 p hp,by have:=MT hn2 p hp;omega⟩) _ f 0 (Nat.le_refl _) (by omega) (by omega) (by omega) hfs (fun p hp q hq=>by have:=Rq he hn1 p hp q hq;have h9:=List.all_eq_true.1 hn1 p hp;have:=MT h9 q hq;omega);rw[<-hput] at h8;by_cases hz:(f.size:Int)+y9 at_ f*(s.size-1)>4096
 ·rw[if_pos hz] at ee;rw[ee,if_neg (by decide)];clear h8 hput;refine M.F Tryz.func59 ?_;(repeat' first|refine M.go ?_|refine M.c2 (h1) ?_|refine M.c2 (h2) ?_|refine M.c2 (h3) ?_|refine M.c2 (h4) ?_|refine M.c2 (h5) ?_|refine M.c2 (h6) ?_|refine M.c2 (h7) ?_|refine M.gs ?_ ?_<;>intro h|refine M.z2 5 13 ?_|refine M.cs ?_ ?_<;>intro h|refine M.gk ?_|fail);all_goals first
   |rfl
   |(exfalso;simp at h;omega)
   |(exfalso;simp at*;omega)
 ·rw[if_neg hz] at ee;have h9:=x8 _ (f.put at_ s) (Nat.le_refl _) (by have:=Re ee;omega);rw[ee,if_pos rfl];refine M.F Tryz.func59 ?_;(repeat' first|refine M.go ?_|refine M.c2 (h1) ?_|refine M.c2 (h2) ?_|refine M.c2 (h3) ?_|refine M.c2 (h4) ?_|refine M.c2 (h5) ?_|refine M.c2 (h6) ?_|refine M.c2 (h7) ?_|refine M.c2 (h8) ?_|refine M.c2 (h9) ?_|refine M.gs ?_ ?_<;>intro h|refine M.z2 5 12 ?_|refine M.cs ?_ ?_<;>intro h|refine M.gk ?_|fail);all_goals first
   |rfl
   |(exfalso;simp at h;omega)
   |(exfalso;simp at*;omega)
theorem V0(p:Fm)(l:List Tm)(hp:p.full<137438953472)(hlen:l.length<1099511627776)(hl:∀t∈l,t.full<137438953472):PC E 64 [.agg p.view,.s .tm l] (.Ax [.agg (fill p l).1.view,.i (fill p l).2]):=by
 have h1:=JE p (by omega);have h2:=Pk p (by omega);refine M.F Tryz.func64 ?_;(repeat' first|refine M.gw ?_|refine M.c2 (h1) ?_|refine M.c2 (h2) ?_|refine M.cs ?_ ?_<;>intro h|fail)
 ·have e:p.err≠0:=by simpa using h
  have e2:fill p l=(Az,p.err):=by simp only[fill];rw[if_pos e]
  rw[e2];simp[zk,V.wk,V.Ak,zd,Ty.view,Fm.view,Az]
 ·rename_i h0;have e:¬p.err≠0:=by simpa using h0
  have e1:16<l.length:=by simp at h;omega
  have e2:fill p l=(Az,1):=by simp only[fill];rw[if_neg e,if_pos e1]
  rw[e2];simp[zk,V.wk,V.Ak,zd,Ty.view,Fm.view,Az]
 rename_i h0;have e:¬p.err≠0:=by simpa using h0
 have e0:p.err=0:=Classical.not_not.1 e;have e1:¬16<l.length:=by simp at h;omega
 have e2:fill p l=vf l.length l 0 p:=by simp only[fill];rw[if_neg e,if_neg e1]
 have hpf:=z9 e0;refine AW.range l.length (fun m=>(vf l.length (l.take m) 0 p).2=0)
  (fun m=>([(1,.s .tm l),(4,.ptr 1 0),(7,.ptr 2 0),(24,.s .tm l),(25,.i l.length),(26,.i m)],⟨3,[(0,.var p.view),(1,.var [.i 0,.i 0,.slice .nil (.t .ty []),.slice .nil (.t .tm []),.slice .nil (.t .fm [])]),(2,.var (vf l.length (l.take m) 0 p).1.view)]⟩))
  (by omega) (fun m=>rfl) (fun m=>rfl) rfl rfl (M.W [some 0,some 1,some 2]) ?_ ?_
 ·intro m hm hP;have hb:=N3 l.length (l.take m) 0 p (by omega);have hg:=K8 l.length l[m] [] (l.take m) 0 p hP;have hg2:=K8 l.length l[m] (l.drop (m+1)) (l.take m) 0 p hP;rw[<-vg l m hm] at hg2;have hml:((0:Int)+(l.take m).length)=m:=by simp;omega
  rw[hml] at hg hg2;rw[List.take_append_getElem hm] at hg;simp only[vf] at hg hg2;have hc:=Zn9 l[m] 0 (l.length-1-m) (by have:=hl l[m] (List.getElem_mem hm);omega);by_cases hl0:yh l[m] 0 (l.length-1-m)=0
  ·have hc2:=Yfq (vf l.length (l.take m) 0 p).1 0 (l[m].re (zn 0 (l.length-1-m)) 0) (by omega) (by
    have h3:l[m].err=0:=by
     by_cases h4:l[m].err=0
     ·exact h4
     ·simp only[yh] at hl0;rw[if_pos h4] at hl0;exact absurd hl0 h4
    rw[wj _ _ _ _ (y5 h3).1];have:=hl l[m] (List.getElem_mem hm);omega)
   rw[if_pos hl0] at hc;rw[if_neg (by simpa using hl0)] at hg hg2;by_cases hp0:ye (vf l.length (l.take m) 0 p).1 0 (l[m].re (zn 0 (l.length-1-m)) 0)=0
   ·rw[if_pos hp0] at hc2;rw[if_neg (by simpa using hp0)] at hg hg2;rw[hl0] at hc;rw[hp0] at hc2;(repeat' first|refine M.gw ?_|refine M.c2 (hc) ?_|refine M.c2 (hc2) ?_|fail);exact⟨rfl,by simp only[hg],(M.W [some 0,some 1,some 2] (he:=(by(repeat'(first|exact trivial|refine And.intro ?_ ?_|refine⟨_,U,_,U,_,U,?_⟩|exact An.refl _|exact An.of_eq (by simp[Al.Aw,hg])));done)))⟩
   ·rw[if_neg hp0] at hc2;rw[if_pos (by simpa using hp0)] at hg hg2;rw[hl0] at hc;rw[e2,hg2];(repeat' first|refine M.gw ?_|refine M.c2 (hc) ?_|refine M.c2 (hc2) ?_|refine M.cs ?_ ?_<;>intro h|fail)
    ·simp[zk,V.wk,V.Ak,zd,Ty.view,Fm.view,Az]
    ·exfalso;simp[hp0] at h
  ·rw[if_neg hl0] at hc;rw[if_pos (by simpa using hl0)] at hg hg2;rw[e2,hg2];(repeat' first|refine M.gw ?_|refine M.c2 (hc) ?_|refine M.cs ?_ ?_<;>intro h|fail)
   ·simp[zk,V.wk,V.Ak,zd,Ty.view,Fm.view,Az]
   ·exfalso;simp[hl0] at h
 ·intro hP;rw[List.take_of_length_le (Nat.le_refl _)] at hP;rw[List.take_of_length_le (Nat.le_refl _)];rw[e2,hP];(repeat' first|refine M.gw ?_|fail)
  rfl
end Go.Ab
