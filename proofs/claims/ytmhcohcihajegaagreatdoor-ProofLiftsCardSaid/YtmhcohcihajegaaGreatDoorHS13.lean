/- A part of this seat's proofs. No conditions. -/
import Derived.Test.YtmhcohcihajegaaGreatDoorHS7
import Derived.Test.YtmhcohcihajegaaGreatDoorHS9
namespace Go.Ab
open Go Go.Proofs
set_option maxRecDepth 100000
set_option maxHeartbeats 4000000
set_option linter.all false
theorem Zpf(p:Pf):(p.shape=false/\p.err=2/\p.num=0)\/(p.shape=true/\(p.small=false\/p.size>16384)/\p.err=4/\p.num=0)\/(p.shape=true/\p.small=true/\p.size<=16384/\p.err=0/\p.num=p.size):=by
 unfold Pf.num Pf.err;cases hs:p.shape with
 |false=>simp
 |true=>
  by_cases h:p.small=false\/p.size>16384
  ·simp[h]
  ·have h':=h;rw[not_or,Bool.not_eq_false] at h';simp[h,h'.1];omega
theorem Zoo(p:Pf)(hp:p.full<274877906944):PC E 104 [.agg p.view] (.tup [.i p.num,.i p.err]):=by
 have ht:=Ybe _ p (0,false) (Nat.le_refl _) hp (by simp only;omega);obtain⟨t1,t2,t3⟩:=Zxq p (0,false);rw[t1] at ht;have hsz:=p.size_le_full;rcases Zpf p with⟨h1,h2,h3⟩|⟨h1,h2,h3,h4⟩|⟨h1,h2,h3,h4,h5⟩
 ·rw[h2,h3];rw[h1] at ht;refine M.F Tryz.func104 ?_;(repeat' first|refine M.w0 ?_|refine M.cb (ht) [1] 0 ?_|refine M.zb ?_|fail)
  rfl
 ·rw[h3,h4];rw[h1] at ht;obtain⟨t4,t5⟩:=t3 h1;rw[t4] at ht;cases hm:p.small with
  |false=>
   rw[hm] at ht;refine M.F Tryz.func104 ?_;(repeat' first|refine M.w0 ?_|refine M.cb (ht) [1] 0 ?_|refine M.zb ?_|fail)
   rfl
  |true=>
   have t6:=t5 hm;have h6:p.size>16384:=by rcases h2 with h2|h2;rw[hm] at h2;cases h2;exact h2
   rw[hm,t6] at ht;simp only[Nat.zero_add,Bool.not_true,Bool.or_false] at ht;refine M.F Tryz.func104 ?_;(repeat' first|refine M.w0 ?_|refine M.cb (ht) [1] 0 ?_|refine M.zb ?_|refine M.cs ?_ ?_<;>intro h|fail);all_goals first
    |rfl
    |(exfalso;simp at h;omega)
    |trace_state
 ·rw[h4,h5];rw[h1] at ht;obtain⟨t4,t5⟩:=t3 h1;have t6:=t5 h2;rw[t4,h2,t6] at ht;simp only[Nat.zero_add,Bool.not_true,Bool.or_false] at ht;refine M.F Tryz.func104 ?_;(repeat' first|refine M.w0 ?_|refine M.cb (ht) [1] 0 ?_|refine M.zb ?_|refine M.cs ?_ ?_<;>intro h|fail);all_goals first
   |rfl
   |(exfalso;simp at h;omega)
   |trace_state
theorem Zca(p:Pf)(hp:p.full<274877906944):PC E 43 [.agg p.view] (.i p.err):=by
 have h1:=Zoo p hp;refine M.F Tryz.func43 ?_;refine M.w1 @h1 ?_
 rfl
inductive Ch where
 |tm (t:Tm)|fm (f:Fm)|pf (p:Pf)
def Ch.cell:Ch->V
 | .tm t=> .ifc 67 t.view
 | .fm f=> .ifc 42 f.view
 | .pf p=> .ifc 38 p.view
def Ch.err:Ch->Int
 | .tm t=>t.err| .fm f=>f.err| .pf p=>p.err
def Ch.full:Ch->Nat
 | .tm t=>t.full| .fm f=>f.full| .pf p=>p.full
theorem Yfy(a b:Tm)(ha:a.full<274877906944)(hb:b.full<274877906944)(steps:Int):PC E 113 [.agg a.view,.agg b.view,.i steps] (.i (Zka a b steps)):=by
 have h1:=Zah a (by omega);have h2:=Zah b (by omega);have h3:=Zm3 _ a b (Nat.le_refl _) (by omega);have h4:=Zit a steps ha;have h5:=Zit b steps hb;unfold Zka;by_cases ea:a.err=0;case neg=>
  rw[if_pos ea];refine M.F Tryz.func113 ?_;(repeat' first|refine M.w1 @h1 ?_|refine M.cs ?_ ?_<;>intro h|fail);all_goals first
   |rfl
   |(exfalso;simp at h;exact ea h)
 rw[ea] at h1;rw[if_neg (by simp[ea])];by_cases eb:b.err=0;case neg=>
  rw[if_pos eb];refine M.F Tryz.func113 ?_;(repeat' first|refine M.w2 @h1 @h2 ?_|refine M.cs ?_ ?_<;>intro h|fail);all_goals first
   |rfl
   |(exfalso;simp at h;exact eb h)
 rw[eb] at h2;rw[if_neg (by simp[eb])];by_cases eq:a=b
 ·rw[if_pos eq];rw[decide_eq_true eq] at h3;refine M.F Tryz.func113 ?_;refine M.w3 @h1 @h2 @h3 ?_
  rfl
 rw[if_neg eq];rw[decide_eq_false eq] at h3;have g1:(xr a steps).2.2=0->(xr a steps).1.full<274877906944:=fun h=>Zpn a steps h;have g2:(xr b steps).2.2=0->(xr b steps).1.full<274877906944:=fun h=>Zpn b steps h;generalize xr a steps=A at*;generalize xr b steps=B at*;obtain⟨x,n,e⟩:=A;obtain⟨y,m,f⟩:=B;dsimp only at h4 h5 g1 g2 ⊢;by_cases he:e=0;case neg=>
  rw[if_pos he];refine M.F Tryz.func113 ?_;(repeat' first|refine M.w4 @h1 @h2 @h3 @h4 ?_|refine M.cs ?_ ?_<;>intro h|fail);all_goals first
   |rfl
   |(exfalso;simp at h;exact he h)
 subst he;rw[if_neg (by simp)];by_cases hf:f=0;case neg=>
  rw[if_pos hf];refine M.F Tryz.func113 ?_;(repeat' first|refine M.w5 @h1 @h2 @h3 @h4 @h5 ?_|refine M.cs ?_ ?_<;>intro h|fail);all_goals first
   |rfl
   |(exfalso;simp at h;exact hf h)
 subst hf;rw[if_neg (by simp)];have h6:=Zm3 _ x y (Nat.le_refl _) (by have:=g1 rfl;omega);refine M.F Tryz.func113 ?_;(repeat' first|refine M.w6 @h1 @h2 @h3 @h4 @h5 @h6 ?_|refine M.cs ?_ ?_<;>intro h|fail)
 ·have:¬x=y:=by simpa using h
  rw[if_neg this]
  rfl
 ·have:x=y:=by simpa using h
  rw[if_pos this]
  rfl
theorem Zzu:∀(n:Nat) (f g:Fm),f.full<=n->n<274877906944->g.full<274877906944->f.shape=true->g.shape=true->PC E 51 [.agg f.view,.agg g.view] (.i (mtF f g)):=by
 intro n;induction n with
 |zero=>intro f g h;have:=f.full_pos;omega
 |succ n ih=>
 intro f g hsz hb hg hfs hgs;have hfull:=Fm.full_eq f;have hgull:=Fm.full_eq g;have h1:=wh _ f.ty g.ty (Nat.le_refl _) (by omega);have he:=Ylm f g;have hl:=zg Tm.full Tm.full_pos f.terms;have hl2:=zg Fm.full Fm.full_pos f.args;by_cases hk:f.kind=g.kind;case neg=>
  rw[if_neg (fun h=>hk h.1)] at he;rw[he];refine M.F Tryz.func51 ?_;(repeat' first|refine M.o1 @h1 ?_|refine M.gs ?_ ?_<;>intro h|refine M.z1 3 ?_|refine M.cs ?_ ?_<;>intro h|refine M.gk ?_|fail);all_goals first
   |rfl
   |(exfalso;simp_all;done)
 by_cases ht:f.ty=g.ty;case neg=>
  rw[if_neg (fun h=>ht h.2)] at he;rw[he];rw[decide_eq_false ht] at h1;refine M.F Tryz.func51 ?_;(repeat' first|refine M.o1 @h1 ?_|refine M.gs ?_ ?_<;>intro h|refine M.z1 3 ?_|refine M.gk ?_|fail);all_goals first
   |rfl
   |(exfalso;simp_all;done)
 rw[if_pos ⟨hk,ht⟩] at he;rw[decide_eq_true ht] at h1;obtain⟨l1,l2⟩:=Yad hfs hgs hk;refine M.F Tryz.func51 ?_;(repeat' first|refine M.w1 @h1 ?_|refine M.gs ?_ ?_<;>intro h|fail);all_goals first
  |(exfalso;simp at h;omega)
  |(exfalso;simp at h;exact h hk)
  |skip
 refine M.rp f.terms.length (fun m=>∀j (h1:j<f.terms.length) (h2:j<g.terms.length),j<m->Zka f.terms[j] g.terms[j] 1000=0)
  (fun m=>([(2,.ptr 0 0),(3,.ptr 1 0),(24,.i f.terms.length),(25,.i m)],⟨2,[(0,.var f.view),(1,.var g.view)]⟩))
  (fun j _ _ h=>by omega) (M.W rh2) ?_ ?_
 ·intro m hm hP;have hm2:m<g.terms.length:=by omega
  have hs1:=zc Tm.full (List.getElem_mem hm);have hs2:=zc Tm.full (List.getElem_mem hm2);have hc:=Yfy f.terms[m] g.terms[m] (by omega) (by omega) 1000;by_cases e0:Zka f.terms[m] g.terms[m] 1000=0
  ·rw[e0] at hc;refine M.w1 @hc ?_;refine⟨rfl,fun j h1 h2 hj=> ?_,(M.W rh2)⟩;by_cases hjm:j=m
   ·subst hjm;exact e0
   ·exact hP j h1 h2 (by omega)
  ·have e1:=Zwc f.terms g.terms m hm hm2 hP e0;rw[if_pos (by rw[e1];exact e0),e1] at he;rw[he];(repeat' first|refine M.w1 @hc ?_|refine M.cs ?_ ?_<;>intro h|fail)
   ·rfl
   ·exfalso;simp at h;exact e0 h
 ·intro hP;have e1:=Zpu f.terms g.terms fun j h1 h2=>hP j h1 h2 (by omega);rw[if_neg (by simp[e1])] at he;refine M.w0 ?_;refine M.rp f.args.length (fun m=>∀j (h1:j<f.args.length) (h2:j<g.args.length),j<m->mtF f.args[j] g.args[j]=0)
   (fun m=>([(2,.ptr 0 0),(3,.ptr 1 0),(45,.i f.args.length),(46,.i m)],⟨2,[(0,.var f.view),(1,.var g.view)]⟩))
   (fun j _ _ h=>by omega) (M.W rh2) ?_ ?_
  ·intro m hm hP2;have hm2:m<g.args.length:=by omega
   have hs1:=zc Fm.full (List.getElem_mem hm);have hs2:=zc Fm.full (List.getElem_mem hm2);have hc:=ih f.args[m] g.args[m] (by omega) (by omega) (by omega) (zx hfs (List.getElem_mem hm)) (zx hgs (List.getElem_mem hm2));by_cases e0:mtF f.args[m] g.args[m]=0
   ·rw[e0] at hc;refine M.w1 @hc ?_;refine⟨rfl,fun j h1 h2 hj=> ?_,(M.W rh2)⟩;by_cases hjm:j=m
    ·subst hjm;exact e0
    ·exact hP2 j h1 h2 (by omega)
   ·have e3:=Zxv f.args g.args m hm hm2 hP2 e0;rw[e3] at he;rw[he];(repeat' first|refine M.w1 @hc ?_|refine M.cs ?_ ?_<;>intro h|fail)
    ·rfl
    ·exfalso;simp at h;exact e0 h
  ·intro hP2;have e3:=Zpj f.args g.args fun j h1 h2=>hP2 j h1 h2 (by omega);rw[e3] at he;rw[he];refine M.w0 ?_
   rfl
end Go.Ab
