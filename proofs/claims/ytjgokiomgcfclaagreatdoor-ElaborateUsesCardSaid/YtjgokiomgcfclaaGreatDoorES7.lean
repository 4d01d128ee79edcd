/- A part of the proofs of this seat. No conditions. -/
import Derived.Test.YtjgokiomgcfclaaGreatDoorES6
namespace Go.Ab
open Go Go.Proofs
set_option maxRecDepth 100000
set_option maxHeartbeats 4000000
set_option linter.all false
theorem Zm5(a b:List Tm)(ha:(a.map Tm.full).sum<1099511627776):PC E 73 [.s .tm a,.s .tm b] (.bool (decide (a=b))):=by
 have hlen:=zh Tm.full Tm.Ac a;by_cases hl:a.length=b.length;case neg=>
  have e:¬a=b:=fun h=>hl (by rw[h]);rw[decide_eq_false e];refine M.F Tryz.func73 ?_;(repeat' first|refine M.go ?_|refine M.z1 3 ?_|refine M.cs ?_ ?_<;>intro h|refine M.gk ?_|fail);all_goals first
   |rfl
   |(exfalso;simp at h;omega)
 refine M.F Tryz.func73 ?_;(repeat' first|refine M.gw ?_|refine M.cs ?_ ?_<;>intro h|fail)
 ·exfalso;simp at h;omega
 refine AW.range a.length (fun m=>∀j (hj:j<a.length),j<m->a[j]=b[j]'(by omega)) (fun m=>([(0,.s .tm a),(1,.s .tm b),(11,.s .tm a),(12,.i a.length),(13,.i m)],⟨0,[]⟩))
  (by omega) (fun m=>rfl) (fun m=>rfl) rfl (fun j hj h=>by omega) (M.W []) ?_ ?_
 ·intro m hm hP;have hm':m<b.length:=by omega
  have hs2:=ze Tm.full (List.getElem_mem hm);have hc:=K0 _ a[m] b[m] (Nat.le_refl _) (by omega);(repeat' first|refine M.gw ?_|refine M.c2 (hc) ?_|refine M.cs ?_ ?_<;>intro h|fail)
  ·have hx:¬a[m]=b[m]:=by simpa using h
   have e:¬a=b:=Ia hm hm' hx;rw[decide_eq_false e];rfl
  ·exact ⟨rfl,Ie hl hm hP (by simpa using h),(M.W [])⟩
 ·intro hP;rw[decide_eq_true (HZ hl hP)];(repeat' first|refine M.gw ?_|fail)
  rfl
theorem Zyg:∀(n:Nat) (x y:Fm),x.full<=n->n<1099511627776->PC E 70 [.agg x.view,.agg y.view] (.bool (decide (x=y))):=by
 intro n;induction n with
 |zero=>intro x y h;have:=x.Ac;omega
 |succ n ih=>
 intro x y hsz hb;have hsz':=x.Af;have hlen:=zh Fm.full Fm.Ac x.args;have heq:=Fm.eq_iff x y;have hty:=y4 _ x.ty y.ty (Nat.le_refl _) (by omega);have hts:=Zm5 x.terms y.terms (by omega);by_cases hall:x.kind=y.kind/\x.ty=y.ty/\x.terms=y.terms/\x.args.length=y.args.length;case neg=>
  have e:¬x=y:=fun h=>hall (by rw[h];exact⟨rfl,rfl,rfl,rfl⟩);rw[decide_eq_false e];clear ih heq e hsz';refine M.F Tryz.func70 ?_;(repeat' first|refine M.go ?_|refine M.c2 (hty) ?_|refine M.c2 (hts) ?_|refine M.gs ?_ ?_<;>intro h|refine M.z1 3 ?_|refine M.cs ?_ ?_<;>intro h|refine M.gk ?_|fail);all_goals first
   |rfl
   |(exfalso;simp at*;exact hall (by assumption) (by assumption) (by assumption) (by omega))
 obtain⟨h1,h2,h3,h4⟩:=hall;rw[decide_eq_true h2] at hty;rw[decide_eq_true h3] at hts;refine M.F Tryz.func70 ?_;(repeat' first|refine M.gw ?_|refine M.c2 (hty) ?_|refine M.c2 (hts) ?_|refine M.gs ?_ ?_<;>intro h|refine M.cs ?_ ?_<;>intro h|fail);all_goals first
  |(exfalso;simp at h;omega)
  |(exfalso;simp at h;exact h h1)
  |skip
 refine AW.range x.args.length (fun m=>∀j (hj:j<x.args.length),j<m->x.args[j]=y.args[j]'(by omega)) (fun m=>([(2,.ptr 0 0),(3,.ptr 1 0),(37,.s .fm x.args),(38,.i x.args.length),(39,.i m)],⟨2,[(0,.var x.view),(1,.var y.view)]⟩))
  (by omega) (fun m=>rfl) (fun m=>rfl) rfl (fun j hj h=>by omega) (M.W [some 0,some 1]) ?_ ?_
 ·intro m hm hP;have hm':m<y.args.length:=by omega
  have hs2:=ze Fm.full (List.getElem_mem hm);have hc:=ih x.args[m] y.args[m] (by omega) (by omega);(repeat' first|refine M.gw ?_|refine M.c2 (hc) ?_|refine M.cs ?_ ?_<;>intro h|fail)
  ·have hx:¬x.args[m]=y.args[m]:=by simpa using h
   have e:¬x=y:=by rw[heq];exact fun hc=>Ia hm hm' hx hc.2.2.2
   rw[decide_eq_false e];rfl
  ·exact ⟨rfl,Ie h4 hm hP (by simpa using h),(M.W [some 0,some 1])⟩
 ·intro hP;have e:x=y:=heq.2 ⟨h1,h2,h3,HZ h4 hP⟩;rw[decide_eq_true e];(repeat' first|refine M.gw ?_|fail)
  rfl
theorem Qe(p:Fm)(l:List Tm)(hp:p.full<274877906944)(hl:l.length<=16->∀t∈l,t.full<137438953472):PC E 17 [.agg p.view,.s .tm l] (.Ax [.agg (fill p l).1.view,.i (fill p l).2]):=by
 have h1:=wz p (by omega);have h2:=x8 _ p (Nat.le_refl _) (by omega);by_cases he:p.err=0;case neg=>
  have e2:fill p l=(Az,p.err):=by simp only[fill];rw[if_pos he]
  rw[e2];refine M.F Tryz.func17 ?_;(repeat' first|refine M.go ?_|refine M.c2 (h1) ?_|refine M.z1 4 ?_|refine M.cs ?_ ?_<;>intro h|refine M.gk ?_|fail);all_goals first
   |rfl
   |(exfalso;simp at h;exact he h)
 rw[he] at h1;by_cases hl16:16<l.length
 ·have e2:fill p l=(Az,1):=by simp only[fill];rw[if_neg (by simp[he]),if_pos hl16]
  rw[e2];refine M.F Tryz.func17 ?_;(repeat' first|refine M.go ?_|refine M.c2 (h1) ?_|refine M.z1 6 ?_|refine M.cs ?_ ?_<;>intro h|refine M.gk ?_|fail);all_goals first
   |rfl
   |(exfalso;simp at h;omega)
 have hl:=hl (by omega);have e2:fill p l=vf l.length l 0 p:=by simp only[fill];rw[if_neg (by simp[he]),if_neg hl16]
 have hpf:=z9 he;refine M.F Tryz.func17 ?_;(repeat' first|refine M.go ?_|refine M.c2 (h1) ?_|refine M.c2 (h2) ?_|refine M.z1 5 ?_|refine M.cs ?_ ?_<;>intro h|refine M.gk ?_|fail);all_goals first
  |(exfalso;simp at h;omega)
  |skip
 refine AW.range l.length (fun m=>(vf l.length (l.take m) 0 p).2=0)
  (fun m=>([(1,.s .tm l),(2,.ptr 0 0),(4,.ptr 1 0),(23,.s .tm l),(24,.i l.length),(25,.i m)],⟨2,[(0,.var (vf l.length (l.take m) 0 p).1.view),(1,.var [.i 0,.i 0,.slice .nil (.t .ty []),.slice .nil (.t .tm []),.slice .nil (.t .fm [])])]⟩))
  (by omega) (fun m=>rfl) (fun m=>rfl) rfl rfl (M.W [some 0,some 1]) ?_ ?_
 ·intro m hm hP;have hb:=N3 l.length (l.take m) 0 p (by omega);have hg:=K8 l.length l[m] [] (l.take m) 0 p hP;have hg2:=K8 l.length l[m] (l.drop (m+1)) (l.take m) 0 p hP;rw[<-vg l m hm] at hg2;have hml:((0:Int)+(l.take m).length)=m:=by simp;omega
  rw[hml] at hg hg2;rw[List.take_append_getElem hm] at hg;simp only[vf] at hg hg2;have hc:=Ycz l[m] 0 (l.length-1-m) (by have:=hl l[m] (List.getElem_mem hm);omega);by_cases hl0:yh l[m] 0 (l.length-1-m)=0
  ·have hc2:=Sl (vf l.length (l.take m) 0 p).1 0 (l[m].re (zn 0 (l.length-1-m)) 0) (by omega) (by
    have h3:l[m].err=0:=by
     by_cases h4:l[m].err=0
     ·exact h4
     ·simp only[yh] at hl0;rw[if_pos h4] at hl0;exact absurd hl0 h4
    rw[wj _ _ _ _ (y5 h3).1];have:=hl l[m] (List.getElem_mem hm);omega)
   rw[if_pos hl0] at hc;rw[if_neg (by simpa using hl0)] at hg hg2;by_cases hp0:ye (vf l.length (l.take m) 0 p).1 0 (l[m].re (zn 0 (l.length-1-m)) 0)=0
   ·rw[if_pos hp0] at hc2;rw[if_neg (by simpa using hp0)] at hg hg2;rw[hl0] at hc;rw[hp0] at hc2;(repeat' first|refine M.gw ?_|refine M.c2 (hc) ?_|refine M.c2 (hc2) ?_|fail);exact⟨rfl,by simp only[hg],(M.W [some 0,some 1] (he:=(by(repeat'(first|exact trivial|refine And.intro ?_ ?_|refine⟨_,U,_,U,_,U,?_⟩|exact An.refl _|exact An.of_eq (by simp[Al.Aw,hg])));done)))⟩
   ·rw[if_neg hp0] at hc2;rw[if_pos (by simpa using hp0)] at hg hg2;rw[hl0] at hc;rw[e2,hg2];(repeat' first|refine M.gw ?_|refine M.c2 (hc) ?_|refine M.c2 (hc2) ?_|refine M.cs ?_ ?_<;>intro h|fail)
    ·simp[zk,V.wk,V.Ak,zd,Ty.view,Fm.view,Az]
    ·exfalso;simp[hp0] at h
  ·rw[if_neg hl0] at hc;rw[if_pos (by simpa using hl0)] at hg hg2;rw[e2,hg2];(repeat' first|refine M.go ?_|refine M.c2 (hc) ?_|refine M.z1 13 ?_|refine M.cs ?_ ?_<;>intro h|refine M.gk ?_|fail)
   ·simp[zk,V.wk,V.Ak,zd,Ty.view,Fm.view,Az]
   ·exfalso;simp[hl0] at h
 ·intro hP;rw[List.take_of_length_le (Nat.le_refl _)] at hP;rw[List.take_of_length_le (Nat.le_refl _)];rw[e2,hP];(repeat' first|refine M.gw ?_|fail)
  rfl
theorem Rb:∀{m:vx} {k:Int},(vn k (m.map (·.1))=none->Du m k=none)/\∀i,vn k (m.map (·.1))=some i->Du m k=(m.map (·.2))[i]?
 |[],k=>⟨fun _=>rfl,fun i h=>by cases h⟩
 |p::m,k=>by
  obtain⟨h1,h2⟩:=Rb (m:=m) (k:=k);simp only[List.map_cons,vn,Du];by_cases hp:p.1=k
  ·rw[if_pos hp,if_pos hp];exact⟨fun h=>by(exact absurd h (by simp)),fun i h=>by cases h;rfl⟩
  ·rw[if_neg hp,if_neg hp];refine⟨fun h=>h1 (by simpa using h),fun i h=> ?_⟩;rw[Option.map_eq_some_iff] at h;obtain⟨j,h3,rfl⟩:=h;rw[h2 j h3,List.getElem?_cons_succ]
theorem Zt7(m:vx)(n:Nat):Cp m (n+1)=Cp m n++[(Du m n).getD HQ]:=by simp[Cp,List.range_succ]
theorem UX(m:vx)(n:Nat):(Cp m n).length=n:=by simp[Cp]
theorem Q0{p:Fm}{l:List Tm}:(fill p l).1.full<=1200000000:=by
 simp only[fill];split
 ·simp[Az,Fm.full,Fm.Ap,Ty.size,Ty.sizes]
 ·split
  ·simp[Az,Fm.full,Fm.Ap,Ty.size,Ty.sizes]
  ·rename_i h1 _;have:=z9 (Classical.not_not.1 h1);exact N3 _ _ _ _ (by omega)
theorem Wy(p f:Fm)(ho:Int)(hp:p.full<68719476736)(hf:f.full<68719476736):PC E 49 [.agg p.view,.i ho,.agg f.view] (.Ax [.s .tm (xq p ho f).1,.i (xq p ho f).2]):=by
 have h1:=JE p (by omega);have h2:=JE f (by omega);have h3:=U5 p (by omega);have h4:=U5 f (by omega);by_cases e1:p.err=0
 rotate_left
 ·have e:xq p ho f=([],p.err):=by simp only[xq];rw[if_pos e1]
  rw[e];refine M.F Tryz.func49 ?_;(repeat' first|refine M.go ?_|refine M.c2 (h1) ?_|refine M.z1 4 ?_|refine M.cs ?_ ?_<;>intro h|refine M.gk ?_|fail)
  ·rfl
  ·exfalso;simp[e1] at h
 by_cases e2:f.err=0
 rotate_left
 ·have e:xq p ho f=([],f.err):=by simp only[xq];rw[if_neg (by simpa using e1),if_pos e2]
  rw[e1] at h1;rw[e];refine M.F Tryz.func49 ?_;(repeat' first|refine M.go ?_|refine M.c2 (h1) ?_|refine M.c2 (h2) ?_|refine M.z1 7 ?_|refine M.cs ?_ ?_<;>intro h|refine M.gk ?_|fail)
  ·rfl
  ·exfalso;simp[e2] at h
 rw[e1] at h1;rw[e2] at h2;have hpf:=z9 e1;have hff:=z9 e2;have hps:=((Fm.Ad p).1 e1).1;have hfs:=((Fm.Ad f).1 e2).1;by_cases e3:0<=ho/\ho<=16/\p.AK=true/\f.AK=true
 rotate_left
 ·have e:xq p ho f=([],1):=by
   simp only[xq];rw[if_neg (by simpa using e1),if_neg (by simpa using e2),if_pos];cases hn1:p.AK with
   |false=>exact .inr (.inl rfl)
   |true=>
    cases hn2:f.AK with
    |false=>exact .inr (.inr rfl)
    |true=>exact .inl fun hc=>e3 ⟨hc.1,hc.2,hn1,hn2⟩
  rw[e];refine M.F Tryz.func49 ?_;(repeat' first|refine M.go ?_|refine M.c2 (h1) ?_|refine M.c2 (h2) ?_|refine M.c2 (h3) ?_|refine M.c2 (h4) ?_|refine M.gs ?_ ?_<;>intro h|refine M.z1 9 ?_|refine M.cs ?_ ?_<;>intro h|refine M.gk ?_|fail);all_goals first
   |rfl
   |(exfalso;apply e3;simp at*;omega)
   |(exfalso;apply e3;simp_all;done)
   |(exfalso;apply e3;simp_all;omega)
 obtain⟨e3,e4,e5,e6⟩:=e3;rw[e5] at h3;rw[e6] at h4;have h5:=Yd5 ho (by omega) _ p f [] 0 (Nat.le_refl _) (by omega) (by omega) (by omega) hps hfs hf e5 e6;simp only[List.map_nil] at h5;have hob:=P2 (p:=p) (h:=ho) e2 e6;have em:xq p ho f=if(mF ho 0 p f []).1=false then([],11)
  else if(fill p (Cp (mF ho 0 p f []).2 ho.toNat)).2≠0\/(fill p (Cp (mF ho 0 p f []).2 ho.toNat)).1≠f then([],11)
  else if((mF ho 0 p f []).2.length:Int)<ho then([],13) else(Cp (mF ho 0 p f []).2 ho.toNat,0):=by
  simp only[xq];rw[if_neg (by simpa using e1),if_neg (by simpa using e2),if_neg];rintro(hc|hc|hc)
  ·exact hc ⟨e3,e4⟩
  ·rw[e5] at hc;cases hc
  ·rw[e6] at hc;cases hc
 have hnew:=Wh ho 266240 p 0 f [] hfs e6 hff;generalize mF ho 0 p f []=r at*;obtain⟨ok,m⟩:=r;have h6:=Yig 4 [];have hhn:(ho.toNat:Int)=ho:=by omega
 refine M.F Tryz.func49 ?_;(repeat' first|refine M.gw ?_|refine M.c2 (h1) ?_|refine M.c2 (h2) ?_|refine M.c2 (h3) ?_|refine M.c2 (h4) ?_|refine M.cb (h5) [3,2] 0 ?_|refine M.gs ?_ ?_<;>intro h|refine M.cs ?_ ?_<;>intro h|fail)
 ·exfalso;simp at h;omega
 ·exfalso;simp at h;omega
 ·have hok:ok=false:=by simpa using h
  rw[em];simp only[hok,if_true]
  rfl
 have hok:ok=true:=by simpa using h
 simp only[hok,if_false,Bool.true_eq_false] at em;refine AW.range ho.toNat (fun m=>True)
  (fun k=>([(1,.i ho),(3,.ptr 0 0),(5,.ptr 1 0),(10,.ptr 3 0),(11,.slice (.own 4) (.t .tm (Cp m k))),(52,.i ho),(53,.i k)],⟨5,[(0,.var p.view),(1,.var f.view),(2,.map .tm (m.map (·.1)) (m.map (·.2))),(3,.var [.i ho,.mp 2]),(4,.row)]⟩))
  (by omega) (fun m=>rfl) (fun m=>by rw[<-hhn];rfl) rfl trivial (M.W [some 0,some 1,some 2,some 3,none]) ?_ ?_
 ·intro k hk _;have hlen:=UX m k;have hs:=Zt7 m k;have hkl:=Rb (m:=m) (k:=(k:Int));have hbk:=hob (k:Int);cases hka:vn (k:Int) (m.map (·.1)) with
  |none=>
   rw[hkl.1 hka] at hs hbk;have hc:=LL _ HQ (Nat.le_refl _) (by decide);(repeat' first|refine M.gw ?_|refine M.c2 (h6) ?_|refine M.c2 (hc) ?_|fail);exact⟨rfl,trivial,(M.W [some 0,some 1,some 2,some 3,some 6] (hf:=(by(repeat'(first|exact trivial|refine And.intro ?_ ?_|refine⟨_,U,_,U,?_⟩|exact An.refl _|exact An.of_eq (by simp[Al.Aw,hs,HQ])));done)))⟩
  |some i=>
   have hil:i<m.length:=by have:=(x3 hka).2;simpa using this
   have hc0:(m.map (·.2))[i]? =some (m[i]).2:=by rw[List.getElem?_map,List.getElem?_eq_getElem hil];rfl
   have h7:=hkl.2 i hka;rw[hc0] at h7;rw[h7] at hs hbk;simp only[Option.getD_some] at hs hbk;have hc:=LL _ (m[i]).2 (Nat.le_refl _) (by omega);(repeat' first|refine M.gw ?_|refine M.c2 (hc) ?_|fail);exact⟨rfl,trivial,(M.W [some 0,some 1,some 2,some 3,some 6] (hf:=(by(repeat'(first|exact trivial|refine And.intro ?_ ?_|refine⟨_,U,_,U,?_⟩|exact An.refl _|exact An.of_eq (by simp[Al.Aw,hs])));done)))⟩
 ·intro _;have h8:=V0 p (Cp m ho.toNat) (by omega) (by rw[UX];omega) (fun t ht=>by
   obtain⟨j,hj,rfl⟩:=List.mem_map.1 ht;have:=hob (j:Int);simp only at this;omega)
  have h9:=Ydk (fill p (Cp m ho.toNat)).1 f (by have:=Q0 (p:=p) (l:=Cp m ho.toNat);omega);have hml:(m.map (·.2)).length=m.length:=List.length_map ..;(repeat' first|refine M.gw ?_|refine M.c2 (h8) ?_|refine M.c2 (h9) ?_|refine M.gs ?_ ?_<;>intro h|refine M.cs ?_ ?_<;>intro h|fail)
  ·have hx:(fill p (Cp m ho.toNat)).2≠0:=by simpa using h
   rw[em,if_pos (.inl hx)]
   rfl
  ·have hx:(fill p (Cp m ho.toNat)).1≠f:=by simpa using h
   rw[em,if_pos (.inr hx)]
   rfl
  ·rename_i h10 h11;have hx:¬(fill p (Cp m ho.toNat)).2≠0:=by simpa using h10
   have hy:¬(fill p (Cp m ho.toNat)).1≠f:=by simpa using h11
   have hz:(m.length:Int)<ho:=by simpa using h
   rw[em,if_neg (fun hc=>hc.elim hx hy),if_pos hz]
   rfl
  ·rename_i h10 h11;have hx:¬(fill p (Cp m ho.toNat)).2≠0:=by simpa using h10
   have hy:¬(fill p (Cp m ho.toNat)).1≠f:=by simpa using h11
   have hz:¬(m.length:Int)<ho:=by simpa using h
   rw[em,if_neg (fun hc=>hc.elim hx hy),if_neg hz]
   rfl
theorem Yae{f:Fm}(h:f.shape=true):y7 f.kind=decide (f.kind>=4):=by
 rw[Bool.eq_iff_iff,A6,decide_eq_true_iff];constructor
 ·intro h;omega
 ·intro h4;by_cases h7:f.kind<=7
  ·omega
  ·have:=UG (f:=f) (by omega) (by omega) (by cases hq:y7 f.kind with|false=>rfl|true=>rw[A6] at hq;omega)
   rw[h] at this;cases this
theorem Ybp(ho:Int)(hh:0<=ho/\ho<=4096):∀(n:Nat) (p f:Fm) (s:De) (b:Int),p.full<=n->n<17179869184->0<=b->b+n<34359738368->p.shape=true->f.shape=true->f.full<68719476736->
 p.AK=true->f.AK=true->
 AC E 126 [.ptr 0 0,.agg p.view,.agg f.view,.i b] ⟨2,mE ho s⟩ (.Ax []) ⟨2,mE ho (rF ho b p f s)⟩:=by
 intro n;induction n with
 |zero=>intro p;intros;have:=p.Ac;omega
 |succ n ih=>
 intro p f s b hsz hn hb hbn hps hfs hff hpv hfv;have hsz':=p.Af;have hlen:=zh Fm.full Fm.Ac p.args;have hlen2:=zh Tm.full Tm.Ac p.terms;have hff':=f.Af;have he:=Qi ho b p f s;have hq:=Yae hps;have hty:=y4 _ p.ty f.ty (Nat.le_refl _) (by omega);have hup:=H8 p.kind b;obtain⟨m0,bad⟩:=s;by_cases hr:bad=false/\p.kind=f.kind/\p.ty=f.ty;case neg=>
  have e:rF ho b p f (m0,bad)=(m0,true):=by
   rw[he,if_pos];cases bad with
   |true=>exact .inl rfl
   |false=>
    by_cases h1:p.kind=f.kind
    ·exact .inr (.inr fun h2=>hr ⟨rfl,h1,h2⟩)
    ·exact .inr (.inl h1)
  rw[e];clear ih hpv hfv hsz' he;cases bad with
  |true=>
   refine M.F Tryz.func126 ?_;(repeat' first|refine M.go ?_|refine M.z1 3 ?_|refine M.gk ?_|fail);all_goals first|exact M.n2 [some 0,some 1] (h8:=(by simp[zk,V.wk,V.Ak,zd,Ty.view,Tm.view,e]))|exfalso;simp at*;omega
  |false=>
   refine M.F Tryz.func126 ?_;(repeat' first|refine M.go ?_|refine M.c2 (hty) ?_|refine M.gs ?_ ?_<;>intro h|refine M.z1 3 ?_|refine M.cs ?_ ?_<;>intro h|refine M.gk ?_|fail);all_goals first|exact M.n2 [some 0,some 1] (h8:=(by simp[zk,V.wk,V.Ak,zd,Ty.view,Tm.view,e]))|exfalso;simp at*;omega|exfalso;simp at*;exact hr (by assumption) (by assumption)
 obtain⟨rfl,hr1,hr2⟩:=hr;have hal:=QA hps hfs hr1;have e1:rF ho b p f (m0,false)=Dw ho (AB p.kind b) p.args f.args (Cd ho b p.terms f.terms (m0,false)):=by
  rw[he,if_neg (by simp[hr1,hr2])]
 rw[decide_eq_true hr2] at hty;refine M.F Tryz.func126 ?_;(repeat' first|refine M.go ?_|refine M.c2 (hty) ?_|refine M.gs ?_ ?_<;>intro h|refine M.z1 2 ?_|refine M.gk ?_|fail);all_goals first
  |(exfalso;simp at*;omega)
  |(exfalso;simp at*;contradiction)
  |skip
 refine AW.range p.terms.length (fun k=>True)
  (fun k=>([(0,.ptr 0 0),(3,.i b),(5,.ptr 2 0),(6,.ptr 3 0),(33,.s .tm p.terms),(34,.i p.terms.length),(35,.i k)],⟨4,[(0,.var [.i ho,.mp 1,.bool (Cd ho b (p.terms.take k) (f.terms.take k) (m0,false)).2]),(1,.map .tm ((Cd ho b (p.terms.take k) (f.terms.take k) (m0,false)).1.map (·.1)) ((Cd ho b (p.terms.take k) (f.terms.take k) (m0,false)).1.map (·.2))),(2,.var p.view),(3,.var f.view)]⟩))
  (by omega) (fun m=>rfl) (fun m=>rfl) U trivial (M.W [some 0,some 1,some 2,some 3] (he:=(by(repeat'(first|exact trivial|refine And.intro ?_ ?_|refine⟨_,U,_,U,_,U,?_⟩|exact An.refl _|refine⟨_,U,_,_,U,?_,?_⟩|(simp[Al.Aw,Cd];done)));done))) ?_ ?_
 ·intro k hk _;have hk2:k<f.terms.length:=by omega
  have hs2:=ze Tm.full (List.getElem_mem hk);have hs3:=ze Tm.full (List.getElem_mem hk2);have hc:=Yei ho hh _ p.terms[k] f.terms[k] (Cd ho b (p.terms.take k) (f.terms.take k) (m0,false)) b (Nat.le_refl _) (by omega) hb (by omega) (zw hps (List.getElem_mem hk)) (zw hfs (List.getElem_mem hk2)) (by omega)
   (Ml hpv (List.getElem_mem hk)) (Ml hfv (List.getElem_mem hk2))
  have htk:=OM ho b p.terms f.terms (m0,false) k hk hk2;generalize Cd ho b (p.terms.take k) (f.terms.take k) (m0,false)=s at hc htk;(repeat' first|refine M.gw ?_|refine M.cb (hc) [0,1] 0 ?_|fail);refine⟨rfl,trivial,?_⟩;simp only[htk];exact(M.W [some 0,some 1,some 2,some 3])
 intro _;rw[List.take_of_length_le (Nat.le_refl _),List.take_of_length_le (show f.terms.length<=p.terms.length by omega)];generalize Cd ho b p.terms f.terms (m0,false)=s1 at e1;rw[e1];repeat'(first|with_reducible refine K.tN ?_)
 refine AW.cut (ι:=Unit) (fun _=>([(0,.ptr 0 0),(3,.i (AB p.kind b)),(5,.ptr 2 0),(6,.ptr 3 0)],⟨4,[(0,.var [.i ho,.mp 1,.bool s1.2]),(1,.map .tm (s1.1.map (·.1)) (s1.1.map (·.2))),(2,.var p.view),(3,.var f.view)]⟩)) ?_ ?_
 ·clear ih he hpv hfv hsz';(repeat' first|refine M.gw ?_|refine M.cs ?_ ?_<;>intro h|fail)
  ·have e:AB p.kind b=b+1:=by simp only[AB];rw[hq,if_pos (by simpa using h)]
   rw[e];exact⟨(),(M.W [some 0,some 1,some 2,some 3])⟩
  ·have e:AB p.kind b=b:=by simp only[AB];rw[hq,if_neg (by simpa using h)]
   rw[e];exact⟨(),(M.W [some 0,some 1,some 2,some 3])⟩
 intro _;(repeat' first|refine M.gw ?_|fail);refine AW.range p.args.length (fun k=>True)
  (fun k=>([(0,.ptr 0 0),(3,.i (AB p.kind b)),(5,.ptr 2 0),(6,.ptr 3 0),(58,.s .fm p.args),(59,.i p.args.length),(60,.i k)],⟨4,[(0,.var [.i ho,.mp 1,.bool (Dw ho (AB p.kind b) (p.args.take k) (f.args.take k) s1).2]),(1,.map .tm ((Dw ho (AB p.kind b) (p.args.take k) (f.args.take k) s1).1.map (·.1)) ((Dw ho (AB p.kind b) (p.args.take k) (f.args.take k) s1).1.map (·.2))),(2,.var p.view),(3,.var f.view)]⟩))
  (by omega) (fun m=>rfl) (fun m=>rfl) U trivial (M.W [some 0,some 1,some 2,some 3] (he:=(by(repeat'(first|exact trivial|refine And.intro ?_ ?_|refine⟨_,U,_,U,_,U,?_⟩|exact An.refl _|refine⟨_,U,_,_,U,?_,?_⟩|(simp[Al.Aw,Dw];done)));done))) ?_ ?_
 ·intro k hk _;have hk2:k<f.args.length:=by omega
  have hs2:=ze Fm.full (List.getElem_mem hk);have hs3:=ze Fm.full (List.getElem_mem hk2);have hc:=ih p.args[k] f.args[k] (Dw ho (AB p.kind b) (p.args.take k) (f.args.take k) s1) (AB p.kind b) (by omega) (by omega) (by omega) (by omega) (zl hps (List.getElem_mem hk)) (zl hfs (List.getElem_mem hk2)) (by omega)
   (L8 hpv (List.getElem_mem hk)) (L8 hfv (List.getElem_mem hk2))
  have htk:=Uq ho (AB p.kind b) p.args f.args s1 k hk hk2;generalize Dw ho (AB p.kind b) (p.args.take k) (f.args.take k) s1=s at hc htk;(repeat' first|refine M.gw ?_|refine M.cb (hc) [0,1] 0 ?_|fail);refine⟨rfl,trivial,?_⟩;simp only[htk];exact(M.W [some 0,some 1,some 2,some 3])
 ·intro _;rw[List.take_of_length_le (Nat.le_refl _),List.take_of_length_le (show f.args.length<=p.args.length by omega)];skip
  (exact M.n2 [some 0,some 1] (h8:=(by simp[zk,V.wk,V.Ak,zd,Ty.view,Tm.view,e1])))
theorem Zsi(m:vx)(n:Nat):CZ m (n+1)=CZ m n++[(Du m n).getD J0]:=by simp[CZ,List.range_succ]
theorem Zvn(m:vx)(n:Nat):(CZ m n).length=n:=by simp[CZ]
theorem Zsl(m:vx)(n:Nat):Ga m (n+1)=(Ga m n||(Du m n).isNone):=by simp[Ga,List.range_succ]
theorem Yhc{p f:Fm}{h:Int}(hh:0<=h)(hp:p.shape=true)(hf:f.shape=true)(hg:(rF h 0 p f ([],false)).2=false):(rF h 0 p f ([],false)).1=(mF h 0 p f []).2:=by
 rcases SJ h hh p 0 f [] (Int.le_refl _) hp hf with⟨_,h2⟩|⟨_,h2⟩
 ·rw[h2]
 ·rw[hg] at h2;cases h2
theorem Yaj(p f:Fm)(ho:Int)(hp:p.full<17179869000)(hf:f.full<17179869000):PC E 67 [.agg p.view,.i ho,.agg f.view] (.Ax [.s .tm (xq p ho f).1,.i (xq p ho f).2]):=by
 rw[<-Ztr];have h1:=wz p (by omega);have h2:=wz f (by omega);by_cases e1:p.err=0
 rotate_left
 ·have e:GD p ho f=([],p.err):=by simp only[GD];rw[if_pos e1]
  rw[e];refine M.F Tryz.func67 ?_;(repeat' first|refine M.go ?_|refine M.c2 (h1) ?_|refine M.z1 4 ?_|refine M.cs ?_ ?_<;>intro h|refine M.gk ?_|fail);all_goals first
   |rfl
   |(exfalso;simp[e1] at h)
 by_cases e2:f.err=0
 rotate_left
 ·have e:GD p ho f=([],f.err):=by simp only[GD];rw[if_neg (by simpa using e1),if_pos e2]
  rw[e1] at h1;rw[e];refine M.F Tryz.func67 ?_;(repeat' first|refine M.go ?_|refine M.c2 (h1) ?_|refine M.c2 (h2) ?_|refine M.z1 7 ?_|refine M.cs ?_ ?_<;>intro h|refine M.gk ?_|fail);all_goals first
   |rfl
   |(exfalso;simp[e2] at h)
 rw[e1] at h1;rw[e2] at h2;have hps:=((Fm.Ad p).1 e1).1;have hfs:=((Fm.Ad f).1 e2).1;have h3:=Qd 268435456 (by omega) _ p (Nat.le_refl _) (by omega) hps;have h4:=Qd 268435456 (by omega) _ f (Nat.le_refl _) (by omega) hfs;rw[<-Zls] at h3 h4;by_cases e3:0<=ho/\ho<=16/\p.AK=true/\f.AK=true
 rotate_left
 ·have e:GD p ho f=([],1):=by
   simp only[GD];rw[if_neg (by simpa using e1),if_neg (by simpa using e2),if_pos];cases hn1:p.AK with
   |false=>exact .inr (.inl rfl)
   |true=>
    cases hn2:f.AK with
    |false=>exact .inr (.inr rfl)
    |true=>exact .inl fun hc=>e3 ⟨hc.1,hc.2,hn1,hn2⟩
  rw[e];refine M.F Tryz.func67 ?_;(repeat' first|refine M.go ?_|refine M.c2 (h1) ?_|refine M.c2 (h2) ?_|refine M.c2 (h3) ?_|refine M.c2 (h4) ?_|refine M.gs ?_ ?_<;>intro h|refine M.z1 9 ?_|refine M.cs ?_ ?_<;>intro h|refine M.gk ?_|fail);all_goals first
   |rfl
   |(exfalso;apply e3;simp at*;omega)
   |(exfalso;apply e3;simp_all;done)
   |(exfalso;apply e3;simp_all;omega)
 obtain⟨e3,e4,e5,e6⟩:=e3;rw[e5] at h3;rw[e6] at h4;have h5:=Ybp ho (by omega) _ p f ([],false) 0 (Nat.le_refl _) (by omega) (by omega) (by omega) hps hfs (by omega) e5 e6;have hob:=P2 (p:=p) (h:=ho) e2 e6;have hmap:=Yhc e3 hps hfs;have em:GD p ho f=if(rF ho 0 p f ([],false)).2=true then([],11)
  else if(fill p (CZ (rF ho 0 p f ([],false)).1 ho.toNat)).2≠0\/(fill p (CZ (rF ho 0 p f ([],false)).1 ho.toNat)).1≠f then([],11)
  else if Ga (rF ho 0 p f ([],false)).1 ho.toNat=true then([],13) else(CZ (rF ho 0 p f ([],false)).1 ho.toNat,0):=by
  simp only[GD];rw[if_neg (by simpa using e1),if_neg (by simpa using e2),if_neg];rintro(hc|hc|hc)
  ·exact hc ⟨e3,e4⟩
  ·rw[e5] at hc;cases hc
  ·rw[e6] at hc;cases hc
 generalize rF ho 0 p f ([],false)=r at*;obtain⟨m,bad⟩:=r;have h6:=Co 13 [] (by decide);have hhn:(ho.toNat:Int)=ho:=by omega
 have h5:AC E 126 [.ptr 0 0,.agg p.view,.agg f.view,.i 0] ⟨2,[(0,.var [.i ho,.mp 1,.bool false]),(1,.map .tm [] [])]⟩ (.Ax []) ⟨2,[(0,.var [.i ho,.mp 1,.bool bad]),(1,.map .tm (m.map (·.1)) (m.map (·.2)))]⟩:=h5;cases bad with
 |true=>
  rw[em,if_pos rfl];refine M.F Tryz.func67 ?_;(repeat' first|refine M.go ?_|refine M.c2 (h1) ?_|refine M.c2 (h2) ?_|refine M.c2 (h3) ?_|refine M.c2 (h4) ?_|refine M.cb (h5) [3,2] 0 ?_|refine M.gs ?_ ?_<;>intro h|refine M.z1 8 ?_|refine M.gk ?_|fail);all_goals first
   |rfl
   |(exfalso;simp at h;omega)
   |(exfalso;simp at*;omega)
 |false=>
 have hmap:m=(mF ho 0 p f []).2:=hmap rfl;rw[<-hmap] at hob;rw[if_neg (by simp)] at em;refine M.F Tryz.func67 ?_;(repeat' first|refine M.go ?_|refine M.c2 (h1) ?_|refine M.c2 (h2) ?_|refine M.c2 (h3) ?_|refine M.c2 (h4) ?_|refine M.cb (h5) [3,2] 0 ?_|refine M.gs ?_ ?_<;>intro h|refine M.z1 8 ?_|refine M.gk ?_|fail);all_goals first
  |(exfalso;simp at h;omega)
  |(exfalso;simp at*;omega)
  |skip
 refine AW.block (AW.upto ho.toNat (fun k=>True)
  (fun k=>([(1,.i ho),(3,.ptr 0 0),(5,.ptr 1 0),(10,.ptr 3 0),(11,.slice (.own 4) (.t .tm (CZ m k))),(12,.bool (Ga m k)),(13,.i k)],⟨5,[(0,.var p.view),(1,.var f.view),(2,.map .tm (m.map (·.1)) (m.map (·.2))),(3,.var [.i ho,.mp 2,.bool false]),(4,.row)]⟩))
  trivial (M.W [some 0,some 1,some 2,some 3,none]) fun k hk _=> ?_)
 by_cases hlt:k<ho.toNat
 ·have hlen:=Zvn m k;have hs:=Zsi m k;have ho2:=Zsl m k;have hkl:=Rb (m:=m) (k:=(k:Int));cases hka:vn (k:Int) (m.map (·.1)) with
  |none=>
   rw[hkl.1 hka] at hs ho2;(repeat' first|refine M.gw ?_|refine M.c2 (h6) ?_|refine M.zb ?_|refine M.cs ?_ ?_<;>intro h|fail);all_goals first
    |(exfalso;simp at h;omega)
    |skip
   refine⟨hlt,trivial,(M.W [some 0,some 1,some 2,some 3,some 6] (hf:=(by(repeat'(first|exact trivial|refine And.intro ?_ ?_|refine⟨_,U,_,U,?_⟩|exact An.refl _|exact An.of_eq (by simp[Al.Aw,hs,ho2,J0])));done)))⟩
  |some i=>
   have hil:i<m.length:=by have:=(x3 hka).2;simpa using this
   have hc0:(m.map (·.2))[i]? =some (m[i]).2:=by rw[List.getElem?_map,List.getElem?_eq_getElem hil];rfl
   have h7:=hkl.2 i hka;rw[hc0] at h7;rw[h7] at hs ho2;simp only[Option.getD_some,Option.isNone_some,Bool.or_false] at hs ho2;(repeat' first|refine M.gw ?_|refine M.zb ?_|refine M.cs ?_ ?_<;>intro h|fail);all_goals first
    |(exfalso;simp at h;omega)
    |skip
   refine⟨hlt,trivial,(M.W [some 0,some 1,some 2,some 3,some 6] (hf:=(by(repeat'(first|exact trivial|refine And.intro ?_ ?_|refine⟨_,U,_,U,?_⟩|exact An.refl _|exact An.of_eq (by simp[Al.Aw,hs,ho2])));done)))⟩
 ·obtain rfl:k=ho.toNat:=by omega
  have h8:=Qe p (CZ m ho.toNat) (by omega) (fun _ t ht=>by
   obtain⟨j,hj,rfl⟩:=List.mem_map.1 ht;have:=hob (j:Int);cases hl:Du m (j:Int) with
   |none=>simp[J0,Tm.full,Tm.Ap,Ty.size,Ty.sizes]
   |some t=>rw[hl] at this;simp only[Option.getD_some] at this ⊢;omega)
  have h9:=Zyg _ (fill p (CZ m ho.toNat)).1 f (Nat.le_refl _) (by have:=Q0 (p:=p) (l:=CZ m ho.toNat);omega);(repeat' first|refine M.go ?_|refine M.z1 18 ?_|refine M.zb ?_|refine M.cs ?_ ?_<;>intro h|refine M.gk ?_|fail);all_goals first
   |(exfalso;simp at h;omega)
   |skip
  by_cases hx:(fill p (CZ m ho.toNat)).2≠0\/(fill p (CZ m ho.toNat)).1≠f
  ·rw[em,if_pos hx];(repeat' first|refine M.go ?_|refine M.c2 (h8) ?_|refine M.c2 (h9) ?_|refine M.gs ?_ ?_<;>intro h|refine M.z1 26 ?_|refine M.cs ?_ ?_<;>intro h|refine M.gk ?_|fail);all_goals first
    |rfl
    |(exfalso;simp at*;contradiction)
    |(exfalso;simp_all;done)
  ·rw[em,if_neg hx];have hx1:(fill p (CZ m ho.toNat)).2=0:=Classical.not_not.1 fun hc=>hx (.inl hc);have hx2:(fill p (CZ m ho.toNat)).1=f:=Classical.not_not.1 fun hc=>hx (.inr hc);rw[hx1] at h8;rw[decide_eq_true hx2] at h9;cases hop:Ga m ho.toNat with
   |true=>
    rw[if_pos rfl];(repeat' first|refine M.gw ?_|refine M.c2 (h8) ?_|refine M.c2 (h9) ?_|fail)
    rfl
   |false=>
    rw[if_neg (by simp)];(repeat' first|refine M.gw ?_|refine M.c2 (h8) ?_|refine M.c2 (h9) ?_|fail)
    rfl
theorem Zy5(qs:List (Int×Ty))(ps:List Fm)(c:Fm)(hq:∀q∈qs,q.1=4\/q.1=6)(hb:(B9 ps c).kind≠4/\(B9 ps c).kind≠6)(h3:c.kind≠3)(hf:(DU qs (B9 ps c)).full<137438953472)(he:(DU qs (B9 ps c)).err=0):
 PC E 66 [.agg (DU qs (B9 ps c)).view] (.Ax [.s .ty (qs.map (·.2)),.s .fm ps,.agg c.view,.i 0]):=by
 have h1:=wz (DU qs (B9 ps c)) (by omega);rw[he] at h1;have hl:=Vo qs (B9 ps c);have hl2:=RM ps c;have hcf:=LA ps c;have hco:=x8 _ c (Nat.le_refl _) (by omega);refine M.F Tryz.func66 ?_;(repeat' first|refine M.gw ?_|refine M.c2 (h1) ?_|fail);refine K.sq (AW.block (AW.upto qs.length (fun m=>True)
  (fun m=>([(1,.ptr 0 0),(4,.ptr 1 0),(7,.slice (.own 2) (.t .ty ((qs.take m).map (·.2))))],⟨3,[(0,.var (DU (qs.drop m) (B9 ps c)).view),(1,.var [.i 0,.i 0,.slice .nil (.t .ty []),.slice .nil (.t .tm []),.slice .nil (.t .fm [])]),(2,.row)]⟩))
  trivial (M.W [some 0,some 1,none]) fun m hm _=> ?_))
 by_cases hlt:m<qs.length
 ·have e:=RO (b:=B9 ps c) hlt;have hx:=Uj (b:=B9 ps c) hlt;have hcx:=x9 _ qs[m].2 (Nat.le_refl _) (by omega);have et:(qs.take (m+1)).map (·.2)=(qs.take m).map (·.2)++[qs[m].2]:=yn (fun q:Int×Ty=>q.2) qs m hlt;have hln:((qs.take m).map (·.2)).length<=qs.length:=by simp;omega
  rcases hq _ (List.getElem_mem hlt) with h4|h4
  ·rw[h4] at e;simp only[e];(repeat' first|refine M.gw ?_|refine M.c2 (hcx) ?_|refine M.bl ?_|fail);refine⟨hlt,trivial,?_⟩;simp only[et];exact(M.W [some 0,some 1,some 3])
  ·rw[h4] at e;simp only[e];(repeat' first|refine M.gw ?_|refine M.c2 (hcx) ?_|refine M.bl ?_|fail);refine⟨hlt,trivial,?_⟩;simp only[et];exact(M.W [some 0,some 1,some 3])
 ·obtain rfl:m=qs.length:=by omega
  simp only[List.drop_length,List.take_length,show DU [] (B9 ps c)=B9 ps c from rfl];(repeat' first|refine M.gw ?_|refine M.gs ?_ ?_<;>intro h|refine M.bl ?_|refine M.cs ?_ ?_<;>intro h|fail);all_goals first
   |(exfalso;simp at h;first|exact hb.1 h|exact hb.2 h)
   |skip
  refine K.sq (AW.block (AW.upto ps.length (fun m=>True)
   (fun m=>([(1,.ptr 0 0),(4,.ptr 1 0),(7,.slice (.own 2) (.t .ty (qs.map (·.2)))),(8,.slice (.own 3) (.t .fm (ps.take m)))],⟨4,[(0,.var (B9 (ps.drop m) c).view),(1,.var [.i 0,.i 0,.slice .nil (.t .ty []),.slice .nil (.t .tm []),.slice .nil (.t .fm [])]),(2,.row),(3,.row)]⟩))
   trivial (M.W [some 0,some 1,some 2,none]) fun m hm _=> ?_))
  by_cases hlt:m<ps.length
  ·have e:=V3 (c:=c) hlt;have hx:=RL (c:=c) hlt;have hcx:=x8 _ ps[m] (Nat.le_refl _) (by omega);simp only[e];(repeat' first|refine M.gw ?_|refine M.c2 (hcx) ?_|refine M.bl ?_|fail);exact⟨hlt,trivial,(M.W [some 0,some 1,some 2,some 4] (hf:=(by(repeat'(first|exact trivial|refine And.intro ?_ ?_|refine⟨_,U,_,U,?_⟩|exact An.refl _|exact An.of_eq (by simp[Al.Aw,List.take_append_getElem])));done)))⟩
  ·obtain rfl:m=ps.length:=by omega
   simp only[List.drop_length,List.take_length,show B9 [] c=c from rfl];(repeat' first|refine M.gw ?_|refine M.c2 (hco) ?_|refine M.bl ?_|refine M.cs ?_ ?_<;>intro h|fail)
   ·exfalso;simp at h;exact h3 h
   ·rfl
theorem P6(l:List Fm)(h:(l.map Fm.full).sum<1099511627776):PC E 22 [.s .fm l,.s .fm l] (.bool true):=by
 have hlen:=zh Fm.full Fm.Ac l;refine M.F Tryz.func22 ?_;(repeat' first|refine M.gw ?_|refine M.cs ?_ ?_<;>intro h|fail)
 ·exfalso;simp at h
 refine AW.range l.length (fun m=>True) (fun m=>([(0,.s .fm l),(1,.s .fm l),(11,.s .fm l),(12,.i l.length),(13,.i m)],⟨0,[]⟩))
  (by omega) (fun m=>rfl) (fun m=>rfl) rfl trivial (M.W []) ?_ ?_
 ·intro m hm _;have hs2:=ze Fm.full (List.getElem_mem hm);have hc:=Zze _ l[m] (Nat.le_refl _) (by omega);(repeat' first|refine M.gw ?_|refine M.c2 (hc) ?_|fail);exact⟨rfl,trivial,(M.W [])⟩
 ·intro _;(repeat' first|refine M.gw ?_|fail)
  rfl
theorem Zy6:PC E 11 [] (.bool true):=by
 have hm:xq (AM (.mk 1 0 (.mk 0 []) []) (wh 0)) 1 (AM (.mk 5 0 (.mk 0 []) [.mk 1 3 (.mk 0 []) []]) (wh 0))=([.mk 5 0 (.mk 0 []) [.mk 1 3 (.mk 0 []) []]],0):=by decide
 have hc:=Wy (AM (.mk 1 0 (.mk 0 []) []) (wh 0)) (AM (.mk 5 0 (.mk 0 []) [.mk 1 3 (.mk 0 []) []]) (wh 0)) 1 (by decide) (by decide);rw[hm] at hc;have h1:=FL (.mk 1 0 (.mk 0 []) []) (wh 0) (by decide) (by decide);have h2:=FL (.mk 5 0 (.mk 0 []) [.mk 1 3 (.mk 0 []) []]) (wh 0) (by decide) (by decide);have h3:=Co 5 [.mk 1 3 (.mk 0 []) []] (by decide);have h4:=K0 _ (.mk 5 0 (.mk 0 []) [.mk 1 3 (.mk 0 []) []]) (.mk 5 0 (.mk 0 []) [.mk 1 3 (.mk 0 []) []]) (Nat.le_refl _) (by decide);refine M.F Tryz.func11 ?_;(repeat' first|refine M.gw ?_|refine M.bp 3 ?_|refine M.c2 (DI _) ?_|refine M.c2 (JA 0) ?_|refine M.c2 (h1) ?_|refine M.c2 (h2) ?_|refine M.c2 (h3) ?_|refine M.c2 (hc) ?_|refine M.c2 (h4) ?_|refine L.mn U U U U ?_|refine L.lkb U U U U U U U U U U ?_|refine M.gs ?_ ?_<;>intro h|refine M.zb ?_|refine M.bl ?_|refine M.ks ?_ ?_<;>intro h|refine M.cs ?_ ?_<;>intro h|exact M.le|exact M.lt|fail);all_goals rfl
def Dk.pt(d:Dk):List Ty×List Tm×Dk:=Dk.pat d.ctx.1 (d.ctx.2.next 4).2 (d.ctx.2.next 4).1.toNat
theorem Zth(d:Dk)(hd:d.ok):AC E 16 [.ptr 0 0] ⟨1,[(0,.var d.cells)]⟩ (.Ax [.s .ty d.ctx.1,.agg (Dk.fm 2 d.pt.2.2 d.pt.1).1.view,.s .tm d.pt.2.1]) ⟨1,[(0,.var (Dk.fm 2 d.pt.2.2 d.pt.1).2.cells)]⟩:=by
 have hcx:=TP d hd;have hg:=Dk.Bx d;have hgl:=Dk.Cl d;have d1:=Dk.DP hd;have hn:=vt d.ctx.2 4 d1 (by omega);have hb:=Dk.Bb d.ctx.2 4 (by omega);have d2:=Dk.AA d1 4;have hpt:d.pt=Dk.pat d.ctx.1 (d.ctx.2.next 4).2 (d.ctx.2.next 4).1.toNat:=rfl;generalize d.ctx.1=g at*;generalize d.ctx.2=D1 at*;obtain⟨c,hc⟩:∃c:Nat,(D1.next 4).1=c:=⟨(D1.next 4).1.toNat,by omega⟩;rw[hc] at hn hb hpt;generalize (D1.next 4).2=D2 at*;simp only[Int.toNat_natCast] at hpt;rw[hpt];refine M.F Tryz.func16 ?_;(repeat' first|refine M.gw ?_|refine M.cb (hcx) [0] 0 ?_|refine M.cb (hn) [0] 0 ?_|fail);refine AW.down c (fun m=>m<=c)
  (fun m=>([(0,.ptr 0 0),(3,.ptr 1 0),(5,.s .ty g),(6,.slice (.own 2) (.t .ty (Dk.pat g D2 (c-m)).1)),(7,.s .tm (Dk.pat g D2 (c-m)).2.1),(8,.i m)],⟨3,[(0,.var (Dk.pat g D2 (c-m)).2.2.cells),(1,.var [.i 0,.i 0,.slice .nil (.t .ty []),.slice .nil (.t .tm []),.slice .nil (.t .fm [])]),(2,.row)]⟩))
  (by omega) (fun m=>rfl) rfl (Nat.le_refl _) ?_ ?_ ?_
 ·simp only[Nat.sub_self];exact(M.W [some 0,some 1,some 2])
 ·intro m hm hP;have e1:(Dk.pat g D2 (c-m)).1=(Dk.pat g D2 (c-(m+1))).1++[((Dk.pat g D2 (c-(m+1))).2.2.type 0).1]:=by rw[show c-m=c-(m+1)+1 by omega];rfl
  have e2:(Dk.pat g D2 (c-m)).2.1=(Dk.tm 4 ((Dk.pat g D2 (c-(m+1))).2.2.type 0).2 g ((Dk.pat g D2 (c-(m+1))).2.2.type 0).1).1::(Dk.pat g D2 (c-(m+1))).2.1:=by rw[show c-m=c-(m+1)+1 by omega];rfl
  have e3:(Dk.pat g D2 (c-m)).2.2=(Dk.tm 4 ((Dk.pat g D2 (c-(m+1))).2.2.type 0).2 g ((Dk.pat g D2 (c-(m+1))).2.2.type 0).1).2:=by rw[show c-m=c-(m+1)+1 by omega];rfl
  have dk:=Dk.EP (g:=g) d2 (c-(m+1));obtain⟨Ls,l1,l2,l3,l4⟩:=Dk.DL hg D2 (c-(m+1));have hl1:(Dk.pat g D2 (c-(m+1))).1.length<=10:=by rw[l1];simp;omega
  have hl2:(Dk.pat g D2 (c-(m+1))).2.1.length<=10:=by rw[l2];simp;omega
  generalize Dk.pat g D2 (c-(m+1))=r at*;have hty:=So r.2.2 dk;have s0:=Dk.type0 r.2.2;have s0':=zy s0.1 s0.2;have dk2:=Dk.Bd 0 _ dk;have htm:=HF 4 (by omega) (r.2.2.type 0).2 g (r.2.2.type 0).1 2 (by omega) dk2 hg s0' (by omega) (by omega) (by omega);clear l1 l2 l3;obtain⟨r1,r2,r3⟩:=r;simp only at*;cases r2;all_goals
   try simp only[List.length_cons] at hl2
   (repeat' first|refine M.gw ?_|refine M.cb (hty) [0] 0 ?_|refine M.cb (htm) [0] 0 ?_|fail);refine⟨rfl,by omega,?_⟩;simp only[e1,e2,e3];exact(M.W [some 0,some 1,some 4])
 ·intro _;simp only[Nat.sub_zero];have dk:=Dk.EP (g:=g) d2 c;obtain⟨Ls,l1,l2,l3,l4⟩:=Dk.DL hg D2 c;have hl1:(Dk.pat g D2 c).1.length<=10:=by rw[l1];simp;omega
  have hsm:Ai (Dk.pat g D2 c).1:=by
   rw[l1];refine zp hg fun x hx=> ?_;rw[List.mem_reverse] at hx;obtain⟨q,hq,rfl⟩:=List.mem_map.1 hx;exact(l4 q hq).2
  generalize Dk.pat g D2 c=r at*;have hfm:=LY 2 r.2.2 r.1 2 (by omega) rfl dk hsm (by omega);(repeat' first|refine M.gw ?_|refine M.cb (hfm) [0] 0 ?_|fail)
  (exact M.n2 [some 0] (h8:=(by simp[zk,V.wk,V.Ak,zd,Ty.view,Tm.view,Fm.view])))
theorem Ybj(p:Fm)(l:List Tm)(hp:p.full<137438953472)(hl:l.length<=16->∀t∈l,t.full<137438953472):PC E 64 [.agg p.view,.s .tm l] (.Ax [.agg (fill p l).1.view,.i (fill p l).2]):=by
 by_cases hl16:16<l.length;case neg=>exact V0 p l hp (by omega) (hl (by omega))
 have h1:=JE p (by omega);by_cases he:p.err=0
 ·have e2:fill p l=(Az,1):=by simp only[fill];rw[if_neg (by simp[he]),if_pos hl16]
  rw[he] at h1;rw[e2];refine M.F Tryz.func64 ?_;(repeat' first|refine M.go ?_|refine M.c2 (h1) ?_|refine M.z1 6 ?_|refine M.cs ?_ ?_<;>intro h|refine M.gk ?_|fail);all_goals first
   |rfl
   |(exfalso;simp at h;omega)
 ·have e2:fill p l=(Az,p.err):=by simp only[fill];rw[if_pos he]
  rw[e2];refine M.F Tryz.func64 ?_;(repeat' first|refine M.go ?_|refine M.c2 (h1) ?_|refine M.z1 4 ?_|refine M.cs ?_ ?_<;>intro h|refine M.gk ?_|fail);all_goals first
   |rfl
   |(exfalso;simp at h;exact he h)
abbrev z5:List V:=[.i 0,.i 0,.slice .nil (.t .ty []),.slice .nil (.t .tm []),.slice .nil (.t .fm [])]
end Go.Ab
