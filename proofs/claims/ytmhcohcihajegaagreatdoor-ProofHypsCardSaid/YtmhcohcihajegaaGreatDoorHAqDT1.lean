/- A part of this seat's proofs. No conditions. -/
import Derived.Test.YtmhcohcihajegaaGreatDoorHAqAT1
import Derived.Test.YtmhcohcihajegaaGreatDoorHAqD1
import Derived.Test.YtmhcohcihajegaaGreatDoorHDT2
namespace Go.Ab
open Go
set_option linter.all false
theorem Zw7(k:Int)(ks:List Int):lkB k ks (List.replicate ks.length true)=decide (k∈ks):=by
 by_cases h:k∈ks
 ·obtain ⟨i,hi⟩:=Zqz h;have:=(Zcn hi).2;simp[lkB,hi,h,List.getD_eq_getElem?_getD,List.getElem?_replicate,this]
 ·simp[lkB,Zqd h,h]
theorem Zec{α:Type}(l:List α)(m:Nat)(h:m<l.length):l.take (m+1)=l.take m++[l[m]]:=by
 rw[List.take_succ,List.getElem?_eq_getElem h];rfl
def Zdn(l:List Int):List Int:=(l.filter fun v=>decide (v≠0)).map (·-1)
theorem Zob(l l':List Int):Zdn (l++l')=Zdn l++Zdn l':=by simp[Zdn]
theorem Zur:Zdn [0]=[]:=by simp[Zdn]
theorem Zxn{v:Int}(h:v≠0):Zdn [v]=[v-1]:=by simp[Zdn,h]
theorem Zjz{j:Int}{l:List Int}:j∈Zdn l↔j+1∈l/\j+1≠0:=by
 simp only[Zdn,List.mem_map,List.mem_filter,decide_eq_true_eq];constructor
 ·rintro ⟨v,⟨h1,h2⟩,rfl⟩;rw[Int.sub_add_cancel];exact⟨h1,h2⟩
 ·rintro ⟨h1,h2⟩;exact⟨j+1,⟨h1,h2⟩,by omega⟩
def Zfh(a b:List Int):List Int:=nub (nub [] (Zdn a)) (if 0∈a then b else [])
theorem Zvi(a b:List Int):(Zfh a b).Nodup:=wc (wc List.nodup_nil)
def Zvt(a:List Int)(m:Nat):Bool:=decide (0∈a.take m)
def wM(a:List Int)(m:Nat):List Int:=nub [] (Zdn (a.take m))
def wN(a b:List Int)(h:Bool)(m:Nat):List Int:=nub (wM a a.length) (if h=true then b.take m else [])
theorem Zxe(a:List Int):Zvt a 0=false:=by simp[Zvt]
theorem Yg0(a:List Int):wM a 0=[]:=by simp[wM,Zdn,nub]
theorem Yg4(a b:List Int)(h:Bool):wN a b h 0=wM a a.length:=by cases h<;>simp[wN,nub]
theorem Yfc{a:List Int}{m:Nat}(hm:m<a.length)(h:a[m]=0):Zvt a (m+1)=true:=by simp[Zvt,Zec a m hm,h]
theorem wM_z{a:List Int}{m:Nat}(hm:m<a.length)(h:a[m]=0):wM a (m+1)=wM a m:=by
 rw[wM,Zec a m hm,h,Zob,Zur,List.append_nil];rfl
theorem Yfj{a:List Int}{m:Nat}(hm:m<a.length)(h:a[m]≠0):Zvt a (m+1)=Zvt a m:=by
 have:¬0=a[m]:=fun e=>h e.symm;simp only[Zvt,Zec a m hm,List.mem_append,List.mem_singleton,this,or_false]
theorem wM_n{a:List Int}{m:Nat}(hm:m<a.length)(h:a[m]≠0):wM a (m+1)=uh (a[m]-1) (wM a m):=by
 rw[wM,Zec a m hm,Zob,Zxn h,Zbw];rfl
theorem wN_t{a b:List Int}{h:Bool}{m:Nat}(hm:m<b.length)(hh:h=true):wN a b h (m+1)=uh b[m] (wN a b h m):=by
 rw[wN,wN,if_pos hh,if_pos hh,Zec b m hm,Zbw];rfl
theorem wN_f{a b:List Int}{h:Bool}{m:Nat}(hh:h=false):wN a b h (m+1)=wN a b h m:=by subst hh;simp[wN]
theorem Yjm(a b:List Int):wN a b (Zvt a a.length) b.length=Zfh a b:=by
 simp only[wN,Zvt,wM,List.take_length,Zfh,decide_eq_true_eq]
theorem Ych(p:Pf):p.shape=true->p.small=true->∀v,(p.tfl (fun(_:Int) (t:Tm)=>t.near) (fun(_:Int) (f:Fm)=>f.near) v).all id=true->p.ix 549755813888:=by
 induction p using Pf.ind with
 |h p ih=>
  intro hs hm v h;obtain⟨s1,s2,s3⟩:=uj hm;obtain⟨_,s4,s5,s6⟩:=zo hs;rw[Pf.tfl_eq,List.all_append,List.all_append,Bool.and_eq_true,Bool.and_eq_true] at h;obtain⟨⟨h1,h2⟩,h3⟩:=h;rw[List.all_eq_true] at h1 h2 h3;refine(Pf.ix_iff _ p).2 ⟨fun t ht=> ?_,fun f hf=> ?_,fun x hx=> ?_⟩
  ·exact Yio ((Tm.err_iff t).2 ⟨s4 t ht,s1 t ht⟩) (by simp_all)
  ·exact Zs5 ((Fm.err_iff f).2 ⟨s5 f hf,s2 f hf⟩) (by simp_all)
  ·obtain ⟨m,hm2,rfl⟩:=List.getElem_of_mem hx;refine ih _ hx (s6 _ hx) (s3 _ hx) (if m+1=p.args.length then v+vaK p.kind else v) (List.all_eq_true.2 fun b hb=> ?_);rw[<-Zed _ _ v (vaK p.kind) p.args m hm2 (by rw[Zc9];omega)] at hb;exact h3 b (List.mem_flatten.2 ⟨_,List.getElem_mem _,hb⟩)
theorem Yi7{p r:Pf}{C:Int}(hR:∀(v h:Int),0<=v->v<=200000->0<=h->h<=200000->Pz (C+200000) r.size (r.uph v h))(hC:0<=C):
 p.shape=true->p.small=true->p.ix C->∀v y:Int,0<=v->0<=y->v+2*p.size<=200000->y+2*p.size<=200000->Pz (C+200000) (p.size+(p.lfl (Zb8 0) y).length*(r.size-1)) (Pf.ph 0 r v y p):=by
 induction p using Pf.ind with
 |h p ih=>
  intro hs hm hix v y hv hy hvz hyz;obtain⟨s1,s2,s3⟩:=uj hm;obtain⟨hh,s4,s5,s6⟩:=zo hs;obtain⟨i1,i2,i3⟩:=(Pf.ix_iff _ p).1 hix;have hz:=p.size_eq;have rp:=r.size_pos;rw[Pf.ph_eq,Pf.lfl_eq];by_cases hk:p.kind=1
  ·rw[if_pos hk];obtain⟨nd,n1,_,_,n4,hi,_⟩:=Zi7 hh;have hz1:p.size=1:=Zk2 hs hk;have hnil:p.args=[]:=by
    rw[hk] at n1;simp[ndP] at n1
    grind
   rw[hz1,hnil];simp only[Pf.lfls,List.flatten_nil,List.append_nil];by_cases h0:p.index-y=0
   ·rw[if_pos h0];have e:Zb8 0 p.kind p.index y=[p.index]:=by unfold Zb8;grind
    grind
   ·rw[if_neg h0];have e:Zb8 0 p.kind p.index y=[]:=by unfold Zb8;grind
    rw[e];simp only[List.length_nil,Nat.zero_mul,Nat.add_zero];split
    ·exact Zqq _ (by omega)
    ·exact Zqq _ hi
  ·rw[if_neg hk];have e:Zb8 0 p.kind p.index y=[]:=by unfold Zb8;grind
   rw[e,List.nil_append];have b1:0<=vaK p.kind/\vaK p.kind<=2:=by unfold vaK;omega
   have b2:0<=hyK p.kind/\hyK p.kind<=1:=by unfold hyK;omega
   have key:∀(l:List Pf),(∀x∈l,x∈p.args)->(∀x∈Pf.phs 0 r v y (vaK p.kind) (hyK p.kind) l,∃m,Pz (C+200000) m x)/\
    ((Pf.phs 0 r v y (vaK p.kind) (hyK p.kind) l).map Pf.size).sum=(l.map Pf.size).sum+(Pf.lfls (Zb8 0) y (hyK p.kind) l).flatten.length*(r.size-1):=by
    intro l;induction l with
    |nil=>intro _;simp[Pf.phs,Pf.lfls]
    |cons x l ihl=>
     intro hx;have h0:=hx x (by simp);have h2:=zc Pf.size h0;obtain⟨a1,a2⟩:=ihl fun z hz=>hx z (by grind);have h1:=ih x h0 (s6 x h0) (s3 x h0) (i3 x h0) (if l.length=0 then v+vaK p.kind else v) (if l.length=0 then y+hyK p.kind else y) (by omega) (by omega) (by omega) (by omega);simp only[Pf.phs,Pf.lfls,List.mem_cons,List.map_cons,List.sum_cons,List.flatten_cons,List.length_append];refine⟨fun z hz=> ?_,?_⟩
     ·grind
     ·rw[a2,h1.2.2.1,Nat.add_mul];omega
   obtain⟨k1,k2⟩:=key p.args fun _ h=>h;exact Yhe hs hm rfl rfl (fun t ht=>⟨s4 t ht,fun q hq=>by grind⟩) (fun f hf=>⟨s5 f hf,fun q hq s hs=>by grind⟩) (Zhp _ _ _ _ _ _ _) k1 k2
section
variable {α:Type} (F:Int->Int->Int->List α)
theorem Ylo(fr n:Int)(p:Pf):∀v y,(p.up fr n v).lfl F y=p.lfl F y:=by
 induction p using Pf.ind with
 |h p ih=>
  intro v y;rw[Pf.up_eq,Pf.lfl_eq,p.lfl_eq];simp only[Pf.kind_mk,Pf.index_mk,Pf.args_mk];congr 2;have key:∀(l:List Pf),(∀x∈l,x∈p.args)->Pf.lfls F y (hyK p.kind) (Pf.ups fr n v (vaK p.kind) l)=Pf.lfls F y (hyK p.kind) l:=by
   intro l;induction l with
   |nil=>intro _;rfl
   |cons x l ihl=>
    intro hx;simp only[Pf.ups,Pf.lfls,Zha]
    grind
  grind
end
theorem Yk5{r:Pf}(hs:r.shape=true)(hm:r.small=true)(hz:r.size<=16384)(hi:r.ix 10001)(hh:r.hx 10000){v h:Int}(hv:0<=v/\v<=200000)(hh2:0<=h/\h<=200000):
 r.uph v h=(r.up 0 v 0).lh 0 h 0/\Pz (10001+v) r.size ((r.up 0 v 0).lh 0 h 0):=by
 have h1:=Yaj (fr:=0) (n:=v) (C:=10001) hv.1 hs hm hi 0;have hf:=Zel _ h1.1;have h2:=h1.2.2.1;unfold Pf.uph;rw[Ydr (by omega) hs hm (Zad hi (by omega)) 0];rw[Ybr (by omega) (Zhd _ h1.1) (Zaz (Ybm _ _ _ _ hh 0) (by omega)) 0 (by omega)];refine⟨rfl,?_⟩;have:=Zzo (f:=0) (b:=h) hh2.1 h1.1 h1.2.1 h1.2.2.2 0
 grind
theorem top2{c:Ck}{p:Pf}(h:MkQ 2 c p)(hc:HTp c)(hs:p.shape=true):p.err=0/\p.size<=1079:=by
 have z:=z2 h hc.b (by omega);exact⟨(Pf.err_iff p).2 ⟨hs,sm_2 h (hc.b.le (by omega)),by omega⟩,by omega⟩
theorem Ycr(p:Pf):p.shape=true->∀y:Int,p.lfl hyF (y+1)=(p.lfl hyF y).flatMap fun x=>if x=0 then [] else [x-1]:=by
 induction p using Pf.ind with
 |h p ih=>
  intro hs y;by_cases hk:p.kind=1
  ·rw[Zgk hs hk,Zgk hs hk];by_cases h1:p.index>=y
   ·rw[if_pos h1];by_cases h2:p.index=y
    ·rw[if_neg (by omega)];simp[h2]
    ·rw[if_pos (by omega)];simp only[List.flatMap_cons,List.flatMap_nil,List.append_nil];rw[if_neg (by omega)];congr 1;omega
   ·rw[if_neg h1,if_neg (by omega)];rfl
  ·rw[Zeh hk,Zeh hk];have key:∀(l:List Pf),(∀x∈l,x∈p.args)->(Pf.lfls hyF (y+1) (hyK p.kind) l).flatten=(Pf.lfls hyF y (hyK p.kind) l).flatten.flatMap fun x=>if x=0 then [] else [x-1]:=by
    intro l;induction l with
    |nil=>intro _;rfl
    |cons x l ihl=>
     intro hx;simp only[Pf.lfls,List.flatten_cons,List.flatMap_append];rw[ihl fun z hz=>hx z (by simp[hz])];congr 1;have h1:=ih x (hx x (by simp)) ((zo hs).2.2.2 x (hx x (by simp)));by_cases h2:l.length=0
     ·rw[if_pos h2,if_pos h2,show y+1+hyK p.kind=y+hyK p.kind+1 by omega];exact h1 _
     ·rw[if_neg h2,if_neg h2];exact h1 _
   exact key p.args fun _ h=>h
theorem Yk8(b:Int)(hb:0<=b)(p:Pf):p.shape=true->∀w:Int,(p.lh 0 b w).lfl hyF (w+b)=p.lfl hyF w:=by
 induction p using Pf.ind with
 |h p ih=>
  intro hs w;rw[Pf.lh_eq];by_cases hk:p.kind=1
  ·rw[if_pos hk,Zgk hs hk];show(va _).lfl hyF _=_;rw[Zl2];by_cases h1:p.index>=w
   ·rw[if_pos (by split<;>omega),if_pos h1,if_pos (by omega)];congr 1;omega
   ·rw[if_neg (by split<;>omega),if_neg h1]
  ·rw[if_neg hk,Zv8 hk,Zeh hk];have key:∀(l:List Pf),(∀x∈l,x∈p.args)->Pf.lfls hyF (w+b) (hyK p.kind) (Pf.lhs 0 b w (hyK p.kind) l)=Pf.lfls hyF w (hyK p.kind) l:=by
    intro l;induction l with
    |nil=>intro _;rfl
    |cons x l ihl=>
     intro hx;simp only[Pf.lfls,Pf.lhs,Zd5];rw[ihl fun z hz=>hx z (by simp[hz])];congr 1;have h1:=ih x (hx x (by simp)) ((zo hs).2.2.2 x (hx x (by simp)));by_cases h2:l.length=0
     ·rw[if_pos h2,if_pos h2,show w+b+hyK p.kind=w+hyK p.kind+b by omega];exact h1 _
     ·rw[if_neg h2,if_neg h2];exact h1 _
   rw[key p.args fun _ h=>h]
theorem Yj8(p r:Pf)(hr:r.shape=true)(hR:∀(v h:Int),0<=v->v<=200000->0<=h->h<=200000->(r.up 0 v 0).shape=true/\r.uph v h=(r.up 0 v 0).lh 0 h 0):
 p.shape=true->∀v y:Int,0<=v->0<=y->v+2*p.size<=200000->y+2*p.size<=200000->(Pf.ph 0 r v y p).lfl hyF y=(p.lfl hyF y).flatMap fun x=>if x=0 then r.lfl hyF 0 else [x-1]:=by
 induction p using Pf.ind with
 |h p ih=>
  intro hs v y hv hy hvz hyz;rw[Pf.ph_eq];have hz:=p.size_eq;by_cases hk:p.kind=1
  ·rw[if_pos hk,Zgk hs hk];by_cases h0:p.index-y=0
   ·rw[if_pos h0,if_pos (by omega)];obtain⟨e1,e2⟩:=hR v (0+y) hv (by omega) (by omega) (by omega);have:=Yk8 (0+y) (by omega) _ e1 0;rw[Int.zero_add,Int.zero_add,Ylo] at this;rw[e2,Int.zero_add,this];simp[h0]
   ·rw[if_neg h0];by_cases h1:p.index-y>0
    ·rw[if_pos h1,if_pos (by omega),Zl2,if_pos (by omega)];simp only[List.flatMap_cons,List.flatMap_nil,List.append_nil];rw[if_neg h0];congr 1;omega
    ·rw[if_neg h1,if_neg (by omega),Zl2,if_neg (by omega)];rfl
  ·rw[if_neg hk,Zv8 hk,Zeh hk];have b1:0<=vaK p.kind/\vaK p.kind<=2:=by unfold vaK;split<;>(try split)<;>omega
   have b2:0<=hyK p.kind/\hyK p.kind<=1:=by unfold hyK;split<;>omega
   have key:∀(l:List Pf),(∀x∈l,x∈p.args)->(Pf.lfls hyF y (hyK p.kind) (Pf.phs 0 r v y (vaK p.kind) (hyK p.kind) l)).flatten=(Pf.lfls hyF y (hyK p.kind) l).flatten.flatMap fun x=>if x=0 then r.lfl hyF 0 else [x-1]:=by
    intro l;induction l with
    |nil=>intro _;rfl
    |cons x l ihl=>
     intro hx;simp only[Pf.lfls,Pf.phs,Zhp,List.flatten_cons,List.flatMap_append];have h1:=hx x (by simp);have h2:=zc Pf.size h1;rw[ihl fun z hz=>hx z (by simp[hz])];congr 1;exact ih x h1 ((zo hs).2.2.2 x h1) _ _ (by split<;>omega) (by split<;>omega) (by split<;>omega) (by split<;>omega)
   exact key p.args fun _ h=>h
theorem Zi1(p:Pf):(xp p).Nodup:=by unfold xp;exact(xn _).nodup_iff.2 (wc List.nodup_nil)
theorem Zg8{p q:Pf}{a:Int}(h:Za1 p a q=0):p.err=0/\(0<=a/\a<=16384)/\q.err=0/\p.nearH=true/\q.nearH=true/\q.nearP=true/\(p.size:Int)+Znh p a*(q.size-1)<=16384:=by
 have h1:p.err=0:=Decidable.byContradiction fun hc=>by rw[Yaw hc] at h;omega
 have h2:0<=a/\a<=16384:=Decidable.byContradiction fun hc=>by rw[Zxy h1 hc] at h;cases h
 have h3:q.err=0:=Decidable.byContradiction fun hc=>by rw[Zyl h1 h2 hc] at h;omega
 have h4:¬(p.nearH=false\/q.nearH=false\/q.nearP=false):=fun hc=>by rw[Yas h1 h2 h3 hc] at h;cases h
 rw[Zll h1 h2 h3 h4] at h
 grind
theorem Zhg{α:Type}{P:α->Int->Prop}(hP:∀x c c',P x c->c<=c'->P x c')(c0:Int):∀l:List α,(∀x∈l,∃c,P x c)->∃c,c0<=c/\∀x∈l,P x c
 |[],_=>⟨c0,by omega,fun x h=>by cases h⟩
 |x::l,h=>by
  obtain⟨c,h1,h2⟩:=Zhg hP c0 l fun y hy=>h y (by grind);obtain⟨d,h3⟩:=h x (by simp);by_cases hcd:c<=d
  ·exact ⟨d,by omega,fun y hy=>by grind⟩
  ·exact ⟨c,h1,fun y hy=>by rcases List.mem_cons.1 hy with rfl|hy;exact hP _ _ _ h3 (by omega);grind⟩
theorem Ygd(p:Pf):p.shape=true->∃C:Int,549755813888<=C/\p.ix C:=by
 induction p using Pf.ind with
 |h p ih=>
  intro hs;obtain⟨_,s4,s5,s6⟩:=zo hs;have bv:∀l:List (Int×Int),(∀q∈l,0<=q.1)->∃c,(549755813888:Int)<=c/\∀q∈l,0<=q.1/\q.1<c:=fun l hl=>
   Zhg (P:=fun(q:Int×Int) c=>0<=q.1/\q.1<c) (fun x c c' h h'=>⟨h.1,by omega⟩) _ l fun q hq=>⟨q.1+1,hl q hq,by omega⟩
  obtain⟨c1,g1,k1⟩:=Zhg (P:=fun(t:Tm) c=>∀q∈t.vars 0,0<=q.1/\q.1<c) (fun x c c' h h' q hq=>⟨(h q hq).1,by grind⟩) 549755813888 p.terms fun t ht=>by
   obtain⟨c,_,h⟩:=bv (t.vars 0) fun q hq=>t.vars_nonneg (s4 t ht) 0 q hq;exact⟨c,h⟩
  obtain⟨c2,g2,k2⟩:=Zhg (P:=fun(f:Fm) c=>∀z∈f.tms 0,∀q∈z.1.vars 0,0<=q.1/\q.1<c) (fun x c c' h h' z hz q hq=>⟨(h z hz q hq).1,by grind⟩) 549755813888 p.forms fun f hf=>by
   obtain⟨c,_,h⟩:=Zhg (P:=fun(z:Tm×Int) c=>∀q∈z.1.vars 0,0<=q.1/\q.1<c) (fun x c c' h h' q hq=>⟨(h q hq).1,by grind⟩) 0 (f.tms 0) fun z hz=>by
    obtain⟨c,_,h⟩:=bv (z.1.vars 0) fun q hq=>z.1.vars_nonneg (x7 f (s5 f hf) 0 z hz) 0 q hq;exact⟨c,h⟩
   exact⟨c,h⟩
  obtain⟨c3,g3,k3⟩:=Zhg (P:=fun(x:Pf) c=>x.ix c) (fun x c c' h h'=>Zad h h') 549755813888 p.args fun x hx=>by
   grind
  refine⟨c1+c2+c3,by omega,(Pf.ix_iff _ p).2 ⟨fun t ht q hq=>⟨(k1 t ht q hq).1,by grind⟩,fun f hf z hz q hq=>⟨(k2 f hf z hz q hq).1,by grind⟩,fun x hx=>Zad (k3 x hx) (by omega)⟩⟩
theorem Ycc{r:Pf}(he:r.err=0)(hn:r.nearP=true)(hh:r.nearH=true){v h:Int}(hv:0<=v/\v<=200000)(hh2:0<=h/\h<=200000):
 r.uph v h=(r.up 0 v 0).lh 0 h 0/\Pz (549755813888+v) r.size ((r.up 0 v 0).lh 0 h 0):=by
 obtain⟨hs,hm,hz⟩:=(Pf.err_iff r).1 he;have hi:=Ych r hs hm 0 hn;have hx:=Zts r hs 0 hh;have h1:=Yaj (fr:=0) (n:=v) (C:=549755813888) hv.1 hs hm hi 0;have hf:=Zel _ h1.1;have h2:=h1.2.2.1;unfold Pf.uph;rw[Ydr (by omega) hs hm hi 0];rw[Ybr (by omega) (Zhd _ h1.1) (Ybm _ _ _ _ hx 0) 0 (by omega)];refine⟨rfl,?_⟩;have:=Zzo (f:=0) (b:=h) hh2.1 h1.1 h1.2.1 h1.2.2.2 0
 grind
theorem Ya8{p q:Pf}(h:Za1 p 0 q=0):(Zcp p 0 q).err=0:=by
 obtain⟨h1,_,h3,n1,n2,n3,hN⟩:=Zg8 h;obtain⟨g1,g2,g3⟩:=(Pf.err_iff p).1 h1;have rp:=q.size_pos;have e:Zcp p 0 q=Pf.ph 0 q 0 0 p:=by unfold Zcp;grind
 have hsz:((p.size+(p.lfl (Zb8 0) 0).length*(q.size-1):Nat):Int)=(p.size:Int)+Znh p 0*(q.size-1):=by
  unfold Znh
  grind
 obtain⟨C,hC,hix⟩:=Ygd p g1;have hA:Pz _ _ (Pf.ph 0 q 0 0 p):=Yi7 (p:=p) (r:=q) (C:=C) (fun v h q1 q2 q3 q4=>by
  obtain⟨w1,w2⟩:=Ycc h3 n3 n2 ⟨q1,q2⟩ ⟨q3,q4⟩;rw[w1];exact⟨w2.1,w2.2.1,w2.2.2.1,Zad w2.2.2.2 (by omega)⟩) (by omega) g1 g2 hix 0 0 (by omega) (by omega) (by omega) (by omega)
 rw[e];exact hA.err (by omega)
theorem Yfk{r:Pf}{C:Int}(he:r.err=0)(hr:Ib C r)(hC:C<=549755813888){v h:Int}(hv:0<=v/\v<=200000)(hh2:0<=h/\h<=200000):
 Pz (C+v) r.size (r.uph v h)/\Ib (C+200000) (r.uph v h):=by
 obtain⟨hs,hm,hz⟩:=(Pf.err_iff r).1 he;have h1:=Yaj (fr:=0) (n:=v) (C:=C) hv.1 hs hm hr.ix 0;have hf:=Zel _ h1.1;have h2:=h1.2.2.1;have hx:=Ybm C 0 v r hr.hx 0;unfold Pf.uph;rw[Ydr (by omega) hs hm (Zad hr.ix hC) 0];rw[Ybr (by omega) (Zhd _ h1.1) (Zaz hx hC) 0 (by omega)];have:=Zzo (f:=0) (b:=h) hh2.1 h1.1 h1.2.1 h1.2.2.2 0;rw[h2] at this;exact⟨this,Zad this.2.2.2 (by omega),Zaz (Yk3 hh2.1 _ hx 0) (by omega),Zip (Ykq _ (Ylk _ hr.lx 0) 0) (by omega)⟩
theorem Ymp{r:Pf}{C:Int}(hR:∀(v h:Int),0<=v->v<=200000->0<=h->h<=200000->Ib (C+200000) (r.uph v h))(p:Pf):
 p.shape=true->p.hx C->p.lx C->∀v y:Int,0<=v->0<=y->v+2*p.size<=200000->y+2*p.size<=200000->(Pf.ph 0 r v y p).hx (C+200000)/\(Pf.ph 0 r v y p).lx (C+200000):=by
 induction p using Pf.ind with
 |h p ih=>
  intro hs h h' v y hv hy hvz hyz;obtain⟨hh,_,_,s6⟩:=zo hs;obtain⟨h1,h2⟩:=(Pf.hx_iff C p).1 h;obtain⟨j1,j2⟩:=(Pf.lx_iff C p).1 h';have hz:=p.size_eq;have b1:0<=vaK p.kind/\vaK p.kind<=2:=by unfold vaK;omega
  have b2:0<=hyK p.kind/\hyK p.kind<=1:=by unfold hyK;omega
  rw[Pf.ph_eq];by_cases hk:p.kind=1
  ·rw[if_pos hk];have:=h1 hk;by_cases h0:p.index-y=0
   ·rw[if_pos h0];have:=hR v (0+y) hv (by omega) (by omega) (by omega);exact⟨this.hx,this.lx⟩
   ·rw[if_neg h0];split
    ·exact ⟨Zse (by omega),Zzv _ _⟩
    ·exact ⟨Zse (by omega),Zzv _ _⟩
  ·rw[if_neg hk,Pf.hx_iff,Pf.lx_iff];simp only[Pf.kind_mk,Pf.index_mk,Pf.args_mk];have key:∀x∈Pf.phs 0 r v y (vaK p.kind) (hyK p.kind) p.args,x.hx (C+200000)/\x.lx (C+200000):=fun x hx=>by
    obtain⟨m,hm,rfl⟩:=List.getElem_of_mem hx;rw[Zhp] at hm;rw[Zqt _ _ _ _ _ _ _ _ hm];have h3:=zc Pf.size (List.getElem_mem hm)
    grind
   grind
theorem Ib.puth{C:Int}{p q:Pf}(h:Ib C p)(h2:Ib C q)(h0:0<=C)(hC:C<=549755813888)(he:Za1 p 0 q=0):Ib (C+200000) (Zcp p 0 q):=by
 obtain⟨e1,_,e3,_⟩:=Zg8 he;obtain⟨g1,g2,g3⟩:=(Pf.err_iff p).1 e1;have e:Zcp p 0 q=Pf.ph 0 q 0 0 p:=by unfold Zcp;grind
 rw[e];have hp:=Yi7 (p:=p) (r:=q) (C:=C) (fun v h q1 q2 q3 q4=>by
  obtain⟨w1,w2⟩:=Yfk e3 h2 hC ⟨q1,q2⟩ ⟨q3,q4⟩;exact⟨w1.1,w1.2.1,w1.2.2.1,Zad w1.2.2.2 (by omega)⟩) h0 g1 g2 h.ix 0 0 (by omega) (by omega) (by omega) (by omega)
 have hl:=Ymp (r:=q) (C:=C) (fun v h q1 q2 q3 q4=>(Yfk e3 h2 hC ⟨q1,q2⟩ ⟨q3,q4⟩).2) p g1 h.hx h.lx 0 0 (by omega) (by omega) (by omega) (by omega);exact⟨hp.2.2.2,hl.1,hl.2⟩
theorem Zps{x:Int}{l r:List Int}:(x∈l.flatMap fun z=>if z=0 then r else [z-1])↔x∈Zdn l\/(0∈l/\x∈r):=by
 rw[List.mem_flatMap,Zjz];constructor
 ·rintro ⟨z,hz,h⟩;by_cases h0:z=0
  ·rw[if_pos h0] at h;subst h0;exact .inr ⟨hz,h⟩
  ·rw[if_neg h0] at h;obtain rfl:=List.mem_singleton.1 h;rw[Int.sub_add_cancel];exact .inl ⟨hz,h0⟩
 ·rintro (⟨h1,h2⟩|⟨h1,h2⟩)
  ·exact ⟨x+1,h1,by rw[if_neg h2,Int.add_sub_cancel];exact List.mem_singleton.2 rfl⟩
  ·exact ⟨0,h1,by rw[if_pos rfl];exact h2⟩
theorem Zkw{p:Pf}{x:Int}:x∈Zdn (xp p)↔x∈Zdn (p.lfl hyF 0):=by rw[Zjz,Zjz,mem_hypsI]
def Zp7(f:Fm)(p:Pf):Pf:= .mk 6 0 (.mk 0 []) [] [f] [p]
theorem Yig(f:Fm)(p:Pf):(Zp7 f p).lfl hyF 0=p.lfl hyF 1:=by
 rw[Pf.lfl_eq];have e1:(Zp7 f p).args=[p]:=rfl;have e2:(Zp7 f p).kind=6:=rfl;rw[e1,e2];simp[Pf.lfls,hyF,hyK]
theorem Zwx{f:Fm}{p:Pf}(hs:p.shape=true){x:Int}:x∈xp (Zp7 f p)↔x∈nub [] (Zdn (xp p)):=by
 rw[mem_hypsI,Yig,mem_nub,Zkw];have h:=Ycr p hs 0;rw[Int.zero_add] at h;rw[h,Zps];simp
theorem Yge{f:Fm}{p:Pf}(hs:p.shape=true):(xp (Zp7 f p)).length=(nub [] (Zdn (xp p))).length:=
 ((List.perm_ext_iff_of_nodup (Zi1 _) (wc List.nodup_nil)).2 fun x=>Zwx hs).length_eq
theorem Yh5{f:Fm}{p:Pf}(hf:f.err=0)(hp:p.err=0)(hz:f.size+p.size<=16000):(Zp7 f p).err=0:=by
 obtain⟨f1,f2⟩:=(Fm.err_iff f).1 hf;obtain⟨g1,g2,g3⟩:=(Pf.err_iff p).1 hp;refine(Pf.err_iff _).2 ⟨?_,?_,?_⟩
 ·rw[Pf.shape_eq];simp[Zp7,f1,g1,Pf.head,ndP,Ty.isNo]
 ·rw[Pf.small_eq];simp[Zp7,f2,g2]
 ·rw[Pf.size_eq];simp[Zp7];omega
theorem Yi2{C:Int}{f:Fm}{p:Pf}(h:p.hx C):(Zp7 f p).hx C:=(Pf.hx_iff _ _).2 ⟨fun h=>absurd h (show ¬(6:Int)=1 by decide),fun _ x hx=>by
 obtain rfl:x=p:=List.mem_singleton.1 hx;exact h⟩
theorem Zxg{p r:Pf}(hr:Ib 10000 r)(he:Za1 p 0 r=0){x:Int}:x∈xp (Zcp p 0 r)↔x∈Zfh (xp p) (xp r):=by
 obtain⟨e1,_,e3,_⟩:=Zg8 he;obtain⟨g1,g2,g3⟩:=(Pf.err_iff p).1 e1;obtain⟨r1,r2,r3⟩:=(Pf.err_iff r).1 e3;have e:Zcp p 0 r=Pf.ph 0 r 0 0 p:=by unfold Zcp;rw[if_pos he]
 have h:=Yj8 p r r1 (fun v h q1 q2 q3 q4=>⟨(Yaj (fr:=0) (n:=v) (C:=10001) q1 r1 r2 (Zad hr.ix (by omega)) 0).1,(Yk5 r1 r2 r3 (Zad hr.ix (by omega)) hr.hx ⟨q1,q2⟩ ⟨q3,q4⟩).1⟩) g1 0 0 (by omega) (by omega) (by omega) (by omega);rw[e,mem_hypsI,h,Zps,Zfh,mem_nub,mem_nub,Zkw];by_cases h0:0∈xp p
 ·have h1:=mem_hypsI.1 h0;simp[h0,h1,mem_hypsI]
 ·have h1:¬0∈p.lfl hyF 0:=fun h=>h0 (mem_hypsI.2 h);simp[h0,h1]
theorem Yhb{p r:Pf}(hr:Ib 10000 r)(he:Za1 p 0 r=0):(xp (Zcp p 0 r)).length=(Zfh (xp p) (xp r)).length:=
 ((List.perm_ext_iff_of_nodup (Zi1 _) (Zvi _ _)).2 fun x=>Zxg hr he).length_eq
theorem Ygh{n m:Nat}{p r:Pf}(hp:Made n p)(hr:Made m r)(ep:p.err=0)(er:r.err=0):Za1 p 0 r=0\/Za1 p 0 r=4:=by
 have h1:p.nearH=true:=Zgf p (Zhd p hp.shape) hp.hx 0;have h2:r.nearH=true:=Zgf r (Zhd r hr.shape) hr.hx 0;have h3:r.nearP=true:=Zh2 r hr.ix 0;have:=Zll (a:=0) ep (by omega) er (by rw[h1,h2,h3];decide);rw[this];by_cases h:(p.size:Int)+Znh p 0*(r.size-1)>16384
 ·rw[if_pos h];exact .inr rfl
 ·rw[if_neg h];exact .inl rfl
theorem Zy4{p r:Pf}(hp:Ib 10000 p)(hr:Ib 10000 r)(he:Za1 p 0 r=0):(Zcp p 0 r).err=0/\(Zcp p 0 r).hx 210000/\(Zcp p 0 r).full<=1064960:=by
 have h:=hp.puth hr (by omega) (by omega) he;have e:=Ya8 he;exact⟨e,Zaz h.hx (by omega),vh e⟩
end Go.Ab
