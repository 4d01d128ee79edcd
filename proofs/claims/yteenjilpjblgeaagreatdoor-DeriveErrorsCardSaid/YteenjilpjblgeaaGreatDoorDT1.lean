/- A part of the proofs of this seat's statements: D33, D43, D34, D35, D36, D37, D38, D39, D40, D41, D42, D48, D49, D50, D51, D52, D53, D54, D55, D56, D57, D58, D59, D60, D61, D62, D63, D64, D65, D66, D67, D68, D69, D70, D71, D72, D73. It has no conditions of its own. -/
import Derived.Test.YteenjilpjblgeaaGreatDoorD1
import Derived.Test.YteenjilpjblgeaaGreatDoorAT1
namespace Go.Ab
open Go
set_option linter.all false
theorem kA_none{k:Int}:∀{l:List Int},k∉l→keyAt k l=none
 |[],_=>rfl
 |x::l,h=>by
  simp only[List.mem_cons,not_or] at h
  have h1:¬x=k:=fun e=>h.1 e.symm
  simp only[keyAt,if_neg h1,kA_none h.2,Option.map_none]
theorem kA_some{k:Int}:∀{l:List Int},k∈l→∃i,keyAt k l=some i
 |[],h=>by cases h
 |x::l,h=>by
  by_cases hx:x=k
  ·exact ⟨0,by simp[keyAt,hx]⟩
  ·obtain ⟨i,hi⟩:=kA_some (l:=l) (by rcases List.mem_cons.1 h with h|h;exact absurd h.symm hx;exact h)
   exact⟨i+1,by simp[keyAt,hx,hi]⟩
theorem putKs_eq(k:Int)(ks:List Int):putKs k ks=if k∈ks then ks else ks++[k]:=by
 by_cases h:k∈ks
 ·obtain ⟨i,hi⟩:=kA_some h
  rw[if_pos h,putKs,hi]
 ·rw [if_neg h,putKs,kA_none h]
theorem mem_putKs{k x:Int}{ks:List Int}:x∈putKs k ks↔x∈ks∨x=k:=by
 rw[putKs_eq]
 split
 ·rename_i h
  constructor
  ·exact Or.inl
  ·rintro (h1|rfl)
   ·exact h1
   ·exact h
 ·simp
theorem nodup_putKs{k:Int}{ks:List Int}(h:ks.Nodup):(putKs k ks).Nodup:=by
 rw[putKs_eq]
 split
 ·exact h
 ·rename_i h1
  exact List.nodup_append.2 ⟨h,by simp,fun a ha b hb e=>by simp at hb;subst hb;subst e;exact h1 ha⟩
theorem putCs_same(k:Int)(ks:List Int)(b:Bool):putCs k ks (List.replicate ks.length b) b=List.replicate (putKs k ks).length b:=by
 unfold putCs putKs
 split
 ·rename_i i hi
  apply List.ext_getElem?
  intro j
  rw[List.getElem?_set]
  split
  ·rename_i e;subst e
   have:=(keyAt_some hi).2
   simp[List.getElem?_replicate,this]
  ·rfl
 ·rw [List.length_append,←List.replicate_append_replicate];rfl
def nub(acc l:List Int):List Int:=l.foldl (fun ks k=>putKs k ks) acc
theorem nub_app(acc l l':List Int):nub acc (l++l')=nub (nub acc l) l':=List.foldl_append
theorem nub_nil(acc:List Int):nub acc []=acc:=rfl
theorem nub_one(acc:List Int)(k:Int):nub acc [k]=putKs k acc:=rfl
theorem mem_nub{x:Int}:∀{l acc:List Int},x∈nub acc l↔x∈acc∨x∈l
 |[],acc=>by simp[nub]
 |k::l,acc=>by
  show x∈nub (putKs k acc) l↔_
  rw[mem_nub,mem_putKs,List.mem_cons,or_assoc]
theorem nodup_nub:∀{l acc:List Int},acc.Nodup→(nub acc l).Nodup
 |[],acc,h=>h
 |k::l,acc,h=>nodup_nub (l:=l) (nodup_putKs h)
theorem nub_len:∀(l acc:List Int),(nub acc l).length≤acc.length+l.length
 |[],acc=>by simp[nub]
 |k::l,acc=>by
  have h1:=nub_len l (putKs k acc)
  have h2:(putKs k acc).length≤acc.length+1:=by rw[putKs_eq];split<;>simp
  show(nub (putKs k acc) l).length≤_
  rw[List.length_cons];omega
def fre(l:List (Int×Int)):List Int:=l.filterMap fun p=>if p.2≤p.1 then some (p.1-p.2) else none
theorem fre_app(l l':List (Int×Int)):fre (l++l')=fre l++fre l':=List.filterMap_append
theorem fre_nil:fre []=[]:=rfl
theorem fre_one(i b:Int):fre [(i,b)]=if b≤i then [i-b] else []:=by
 by_cases h:b≤i
 ·simp [fre,h]
 ·simp [fre,h]
theorem fre_len(l:List (Int×Int)):(fre l).length≤l.length:=List.length_filterMap_le _ _
theorem mem_fre{x:Int}{l:List (Int×Int)}:x∈fre l↔0≤x∧∃p∈l,p.1-p.2=x:=by
 simp only[fre,List.mem_filterMap]
 constructor
 ·rintro ⟨p,hp,h⟩
  split at h
  ·cases h;exact⟨by omega,p,hp,rfl⟩
  ·cases h
 ·rintro ⟨h0,p,hp,h⟩
  exact⟨p,hp,by rw[if_pos (by omega),h]⟩
theorem mem_cnt{x:Int}:∀{l:List (Int×Int)},(∃p∈l,p.1-p.2=x)↔cnt x l≠0
 |[]=>by simp[cnt]
 |p::l=>by
  have ih:=mem_cnt (x:=x) (l:=l)
  rw[show p::l=[p]++l from rfl,cnt_append,cnt_one]
  constructor
  ·rintro ⟨q,hq,h⟩
   rcases List.mem_append.1 hq with h1|h1
   ·simp at h1;subst h1;rw[if_pos h];omega
   ·have:=ih.1 ⟨q,h1,h⟩;omega
  ·intro h
   by_cases h1:p.1-p.2=x
   ·exact ⟨p,by simp,h1⟩
   ·rw [if_neg h1] at h
    obtain⟨q,hq,h2⟩:=ih.2 (by omega)
    exact⟨q,by simp[hq],h2⟩
def useK(t:Tm):List Int:=nub [] (fre (t.vars 0))
def usesI(t:Tm):List Int:=sortI (useK t)
theorem useK_nodup(t:Tm):(useK t).Nodup:=nodup_nub List.nodup_nil
theorem mem_useK{t:Tm}{x:Int}:x∈useK t↔0≤x∧cnt x (t.vars 0)≠0:=by rw[useK,mem_nub,mem_fre,mem_cnt];simp
theorem useK_len(t:Tm):(useK t).length≤t.size:=by
 have h1:=nub_len (fre (t.vars 0)) []
 have h2:=fre_len (t.vars 0)
 have h3:=t.vars_len 0
 simp only[useK,List.length_nil] at*;omega
theorem sortI_perm(l:List Int):(sortI l).Perm l:=List.mergeSort_perm l _
theorem sortI_sorted(l:List Int):(sortI l).Pairwise (·≤·):=by
 have h:=List.pairwise_mergeSort (le:=fun x y:Int=>decide (x≤y)) (fun a b c h1 h2=>by simp only[decide_eq_true_eq] at*;omega) (fun a b=>by simp only[Bool.or_eq_true,decide_eq_true_eq];omega) l
 exact h.imp fun h=>by simpa using h
theorem sorted_eq{l l':List Int}(hp:l.Perm l')(h:l.Pairwise (·≤·))(h':l'.Pairwise (·≤·)):l=l':=
 hp.eq_of_pairwise (le:=(·≤·)) (fun a b _ _ h1 h2=>by omega) h h'
theorem sortI_of_perm{l l':List Int}(hp:l.Perm l'):sortI l=sortI l':=
 sorted_eq ((sortI_perm l).trans (hp.trans (sortI_perm l').symm)) (sortI_sorted l) (sortI_sorted l')
theorem mem_usesI{t:Tm}{x:Int}:x∈usesI t↔0≤x∧cnt x (t.vars 0)≠0:=by rw[usesI,(sortI_perm _).mem_iff,mem_useK]
theorem usesI_nodup(t:Tm):(usesI t).Nodup:=(sortI_perm _).nodup_iff.2 (useK_nodup t)
def shI(fr by_ v:Int):Int:=if v≥fr then v+by_ else v
def insS(l:List Int)(n:Int)(i:Nat):List Int:=l.take i++(l.getD i n::l.drop i)
def insE(l:List Int)(n:Int)(i:Nat):List Int:=l.take i++n::l.drop i
theorem insS_end(l:List Int)(n:Int):insS l n l.length=l++[n]:=by simp[insS]
theorem insS_len{l:List Int}{n:Int}{i:Nat}(h:i≤l.length):(insS l n i).length=l.length+1:=by simp[insS];omega
theorem insS_at{l:List Int}{n:Int}{i:Nat}(h:i<l.length)(h':i<(insS l n (i+1)).length):(insS l n (i+1))[i]=l[i]:=by
 simp only[insS]
 rw[List.getElem_append_left (by simp;omega),List.getElem_take]
theorem insS_step{l:List Int}{n:Int}{i:Nat}(h:i<l.length):(insS l n (i+1)).set (i+1) l[i]=insS l n i:=by
 have h1:(l.take (i+1)).length=i+1:=by simp;omega
 simp only[insS]
 have e:l.take (i+1)=l.take i++[l[i]]:=by rw[List.take_succ,List.getElem?_eq_getElem h];rfl
 rw[List.set_append_right (h:=by omega),h1,Nat.sub_self,List.set_cons_zero,e,List.append_assoc,List.singleton_append,←List.drop_eq_getElem_cons h]
 congr 2
 rw[List.getD_eq_getElem?_getD,List.getElem?_eq_getElem h];rfl
theorem insS_done{l:List Int}{n:Int}{i:Nat}(h:i≤l.length):(insS l n i).set i n=insE l n i:=by
 have h1:(l.take i).length=i:=by simp;omega
 simp only[insS,insE]
 rw[List.set_append_right (h:=by omega),h1,Nat.sub_self,List.set_cons_zero]
theorem insE_perm(l:List Int)(n:Int)(i:Nat):(insE l n i).Perm (n::l):=by
 have h1:(insE l n i).Perm (n::(l.take i++l.drop i)):=List.perm_middle
 rwa [List.take_append_drop] at h1
theorem insE_sorted{l:List Int}{n:Int}{i:Nat}(hs:l.Pairwise (·≤·))(h:∀x∈l.drop i,n<x)(h':∀(hi:0<i) (hl:i-1<l.length),l[i-1]≤n)(hil:i≤l.length):(insE l n i).Pairwise (·≤·):=by
 have hs':=hs
 rw[←List.take_append_drop i l,List.pairwise_append] at hs
 obtain⟨h1,h2,h3⟩:=hs
 have ht:∀x∈l.take i,x≤n:=fun x hx=>by
  obtain⟨j,hj,hx2⟩:=List.mem_iff_getElem.1 hx
  have hj2:j<i:=by simp at hj;omega
  rw[List.getElem_take] at hx2
  have h4:=h' (by omega) (by omega)
  rcases Nat.lt_or_ge j (i-1) with h5|h5
  ·have:=List.pairwise_iff_getElem.1 hs' j (i-1) (by omega) (by omega) h5
   omega
  ·have h6:j=i-1:=by omega
   subst h6;omega
 rw[insE,List.pairwise_append]
 refine⟨h1,List.pairwise_cons.2 ⟨fun x hx=>by have:=h x hx;omega,h2⟩,fun x hx y hy=> ?_⟩
 rcases List.mem_cons.1 hy with rfl|hy
 ·exact ht x hx
 ·exact h3 x hx y hy
theorem sortI_ins{d:List Int}{n:Int}{i:Nat}(h:∀x∈(sortI d).drop i,n<x)(h':∀(hi:0<i) (hl:i-1<(sortI d).length),(sortI d)[i-1]≤n)(hil:i≤(sortI d).length):insE (sortI d) n i=sortI (d++[n]):=by
 refine sorted_eq ?_ (insE_sorted (sortI_sorted d) h h' hil) (sortI_sorted _)
 refine((insE_perm _ _ _).trans ((sortI_perm d).cons n)).trans (?_:(n::d).Perm _)
 exact((List.perm_append_comm (l₁:=[n]) (l₂:=d)).trans (sortI_perm _).symm)
theorem sortI_len(d:List Int):(sortI d).length=d.length:=(sortI_perm d).length_eq
theorem sortI_nil:sortI []=[]:=List.mergeSort_nil
theorem nodup_sub:∀{l ks:List Int},l.Nodup→(∀x∈l,x∈ks)→l.length≤ks.length
 |[],_,_,_=>Nat.zero_le _
 |x::l,ks,hn,h=>by
  obtain⟨h1,h2⟩:=List.nodup_cons.1 hn
  have h3:=h x (by simp)
  have h4:=nodup_sub (l:=l) (ks:=ks.erase x) h2 fun y hy=>(List.mem_erase_of_ne (fun e:y=x=>h1 (by rw[←e];exact hy))).2 (h y (by simp[hy]))
  rw[List.length_erase_of_mem h3] at h4
  have:0<ks.length:=List.length_pos_of_mem h3
  simp only[List.length_cons];omega
theorem lower_lift{t:Tm}(hs:t.shape=true)(a:Int)(s:Tm):(t.re (liftG a 1) 0).re (putG a s) 0=t:=by
 rw[re_re]
 refine re_id t 0 hs fun p hp=> ?_
 simp only[liftG_eq,re_vT,putG_eq]
 by_cases h:p.1-p.2≥a
 ·rw [if_pos h,if_neg (by omega),if_pos (by omega)];congr 1;omega
 ·rw [if_neg h,if_neg (by omega),if_neg (by omega)]
def lowerErr(t:Tm)(a:Int):Int:=if t.err≠0 then t.err else if ¬(0≤a∧a≤4096) then 1 else if 0<cnt a (t.vars 0) then 6 else 0
def prevs(l:List Int):List Int:=(l.filter fun v=>decide (v≠0)).map (·-1)
def wantI(a b:List Int):List Int:=nub (nub [] (prevs a)) (if 0∈a then b else [])
def hasM(a:List Int)(m:Nat):Bool:=decide (0∈a.take m)
def wM(a:List Int)(m:Nat):List Int:=nub [] (prevs (a.take m))
def wN(a b:List Int)(h:Bool)(m:Nat):List Int:=nub (wM a a.length) (if h=true then b.take m else [])
def useKF(f:Fm):List Int:=nub [] (fre (varsL (f.tms 0)))
def usesFI(f:Fm):List Int:=sortI (useKF f)
def Fm.lft(f:Fm)(fr by_:Int):Fm:=f.re (fun b t=>t.re (liftG (fr+b) by_) 0) 0
def liftFErr(f:Fm)(fr by_:Int):Int:=if f.err≠0 then f.err else if ¬(0≤fr∧fr≤4096)∨¬(0≤by_∧by_≤4096)∨f.near=false then 1 else 0
def lowerFErr(f:Fm)(a:Int):Int:=if f.err≠0 then f.err else if ¬(0≤a∧a≤4096) then 1 else if 0<cntF a (f.tms 0) then 6 else 0
def falseF:Fm:=eqF (.mk 4 0 (.mk 0 []) []) (.mk 5 0 (.mk 0 []) [.mk 4 0 (.mk 0 []) []])
def notF(f:Fm):Fm:= .mk 3 (.mk 0 []) [] [f,falseF]
def zeroF:Fm:=eqF (.mk 1 0 (.mk 0 []) []) (.mk 4 0 (.mk 0 []) [])
def orF(a b:Fm):Fm:= .mk 5 natT [] [.mk 2 (.mk 0 []) [] [.mk 3 (.mk 0 []) [] [zeroF,a],.mk 3 (.mk 0 []) [] [.mk 3 (.mk 0 []) [] [zeroF,falseF],b]]]
theorem fshape_kinds{f:Fm}(h:f.shape=true):
 (f.kind=1∧f.args=[])∨((f.kind=2∨f.kind=3)∧f.terms=[])∨((f.kind=4∨f.kind=5∨f.kind=6∨f.kind=7)∧f.terms=[]∧f.ty.err=0):=by
 rw[Fm.shape_eq,Bool.and_eq_true,Bool.and_eq_true] at h
 have h1:=h.1.1
 unfold Fm.head at h1
 by_cases h2:f.kind=1
 ·rw [if_pos h2] at h1
  simp only[Bool.and_eq_true,beq_iff_eq,List.length_eq_zero_iff] at h1
  exact .inl ⟨h2,h1.2⟩
 rw[if_neg h2] at h1
 by_cases h3:f.kind=2∨f.kind=3
 ·rw [if_pos h3] at h1
  simp only[Bool.and_eq_true,beq_iff_eq,List.length_eq_zero_iff] at h1
  exact .inr (.inl ⟨h3,h1.1.2⟩)
 rw[if_neg h3] at h1
 by_cases h4:f.kind=4∨f.kind=5∨f.kind=6∨f.kind=7
 ·rw [if_pos h4] at h1
  simp only[Bool.and_eq_true,beq_iff_eq,List.length_eq_zero_iff] at h1
  refine .inr (.inr ⟨h4,h1.1.2,(Ty.err_iff f.ty).2 ?_⟩)
  have:=h1.1.1
  simp only[Ty.ok,Bool.and_eq_true,decide_eq_true_eq] at this
  exact this
 rw[if_neg h4] at h1
 cases h1
theorem flower_lift{f:Fm}(hs:∀p∈f.tms 0,p.1.shape=true)(a:Int)(s:Tm):(f.lft a 1).put a s=f:=by
 rw[Fm.put,Fm.lft,Fm.re_re]
 refine Fm.re_id f 0 fun p hp=> ?_
 exact lower_lift (hs p hp) (a+p.2) s
theorem map_same{α:Type}{f g:α→Nat}{l:List α}(h:∀x∈l,f x=g x):(l.map f).sum=(l.map g).sum:=by rw[List.map_congr_left h]
theorem re_keeps{G:Int→Tm→Tm}(hG:∀b t,t.shape=true→(G b t).shape=true∧(G b t).size=t.size∧(G b t).full=t.full)(f:Fm):∀b,f.shape=true→(f.re G b).shape=true∧(f.re G b).size=f.size∧(f.re G b).full=f.full:=by
 induction f using Fm.ind with
 |h f ih=>
  intro b hf
  have h0:=hf
  rw[Fm.shape_eq,Bool.and_eq_true,Bool.and_eq_true] at h0
  obtain⟨⟨h1,h2⟩,h3⟩:=h0
  rw[Fm.re_eq]
  refine⟨?_,?_,?_⟩
  ·rw [Fm.shape_eq,Bool.and_eq_true,Bool.and_eq_true]
   refine⟨⟨?_,?_⟩,?_⟩
   ·simp only[Fm.head,Fm.kind_mk,Fm.ty_mk,Fm.terms_mk,Fm.args_mk,List.length_map] at h1 ⊢
    exact h1
   ·rw [Fm.terms_mk,List.all_eq_true]
    intro y hy
    obtain⟨x,hx,rfl⟩:=List.mem_map.1 hy
    exact(hG b x (List.all_eq_true.1 h2 x hx)).1
   ·rw [Fm.args_mk,List.all_eq_true]
    intro y hy
    obtain⟨x,hx,rfl⟩:=List.mem_map.1 hy
    exact(ih x hx _ (List.all_eq_true.1 h3 x hx)).1
  ·rw [Fm.size_eq,f.size_eq]
   simp only[Fm.terms_mk,Fm.args_mk,List.map_map]
   rw[map_same (f:=Tm.size∘G b) (g:=Tm.size) fun x hx=>(hG b x (List.all_eq_true.1 h2 x hx)).2.1,map_same (f:=Fm.size∘Fm.re G (upF f.kind b)) (g:=Fm.size) fun x hx=>(ih x hx _ (List.all_eq_true.1 h3 x hx)).2.1]
  ·rw [Fm.full_eq,f.full_eq]
   simp only[Fm.terms_mk,Fm.args_mk,Fm.ty_mk,List.map_map]
   rw[map_same (f:=Tm.full∘G b) (g:=Tm.full) fun x hx=>(hG b x (List.all_eq_true.1 h2 x hx)).2.2,map_same (f:=Fm.full∘Fm.re G (upF f.kind b)) (g:=Fm.full) fun x hx=>(ih x hx _ (List.all_eq_true.1 h3 x hx)).2.2]
theorem lft_keeps{f:Fm}(hf:f.shape=true){fr by_:Int}(hb:0≤by_):(f.lft fr by_).shape=true∧(f.lft fr by_).size=f.size∧(f.lft fr by_).full=f.full:=
 re_keeps (fun b t ht=>⟨lift_shape 0 ht hb,lift_size _ _ t 0 ht,lift_full _ _ t 0 ht⟩) f 0 hf
theorem fokT_lft(g m:List Ty)(fr:Int)(f:Fm):∀(h:List Ty) (b:Int),(h.length:Int)=fr+b→f.shape=true→f.okT (g++h)→
 (f.re (fun b t=>t.re (liftG (fr+b) m.length) 0) b).okT (g++m++h):=by
 induction f using Fm.ind with
 |h f ih=>
  intro h b hb hf hok
  rw[Fm.okT_iff] at hok
  rw[Fm.re_eq,Fm.okT_iff]
  simp only[Fm.terms_mk,Fm.args_mk]
  refine⟨fun y hy=> ?_,fun y hy=> ?_⟩
  ·obtain ⟨x,hx,rfl⟩:=List.mem_map.1 hy
   rw[lift_inf x g m h (fr+b) 0 (fshape_terms hf hx) (by omega)]
   exact hok.1 x hx
  ·obtain ⟨x,hx,rfl⟩:=List.mem_map.1 hy
   have h1:=hok.2 x hx
   by_cases hq:quantK f.kind=true
   ·rw [ctxF_q hq] at h1
    rw[show ∀ts fs,ctxF (g++m++h) (Fm.mk f.kind f.ty ts fs)=g++m++h++[f.ty] from fun ts fs=>ctxF_q (f:=Fm.mk f.kind f.ty ts fs) hq]
    have e:upF f.kind b=b+1:=if_pos hq
    rw[e,List.append_assoc (g++m)]
    rw[List.append_assoc] at h1
    exact ih x hx (h++[f.ty]) (b+1) (by simp;omega) (fshape_args hf hx) h1
   ·rw [ctxF_n hq] at h1
    rw[show ∀ts fs,ctxF (g++m++h) (Fm.mk f.kind f.ty ts fs)=g++m++h from fun ts fs=>ctxF_n (f:=Fm.mk f.kind f.ty ts fs) hq]
    have e:upF f.kind b=b:=if_neg hq
    rw[e]
    exact ih x hx h b hb (fshape_args hf hx) h1
theorem lft_err{f:Fm}(he:f.err=0){fr by_:Int}(hb:0≤by_):(f.lft fr by_).err=0:=by
 have h1:=(Fm.err_iff f).1 he
 obtain⟨h2,h3,_⟩:=lft_keeps h1.1 (fr:=fr) hb
 exact(Fm.err_iff _).2 ⟨h2,by rw[h3];exact h1.2⟩
def exF:Fm:= .mk 4 natT [] [.mk 1 (.mk 0 []) [vT 0,vT 1] []]
end Go.Ab
namespace Go.Ab
set_option linter.all false
theorem node_inf{k i:Int}{th T:Ty}{xs:List Tm}{g:List Ty}(k1:k≠1)(k2:k≠2)(h:(Tm.mk k i th xs).inf g=(T,0)):
 (∀x∈xs,x.inf g=((x.inf g).1,0))∧rule k th (xs.map fun x=>(x.inf g).1)=(T,0):=by
 obtain⟨h1,h2⟩:=inf_node (t:=Tm.mk k i th xs) k1 k2 h
 exact⟨fun x hx=>by rw[←h1 x hx],h2⟩
theorem rec_inf{i:Int}{th T:Ty}{x f n:Tm}{g:List Ty}(h:(Tm.mk 6 i th [x,f,n]).inf g=(T,0)):
 T=th∧x.inf g=(th,0)∧f.inf g=(funT natT (funT th th),0)∧n.inf g=(natT,0):=by
 obtain⟨h1,h2⟩:=node_inf (by decide) (by decide) h
 have hx:=h1 x (by simp)
 have hf:=h1 f (by simp)
 have hn:=h1 n (by simp)
 simp only[rule,List.map_cons,List.map_nil,at0_cons0,at0_cons1,at0_cons2,reduceIte,Int.reduceEq] at h2
 by_cases hc:¬(x.inf g).1=th∨¬(f.inf g).1=funT natT (funT th th)∨¬(n.inf g).1=natT
 ·rw [if_pos hc] at h2;cases h2
 ·rw [if_neg hc] at h2
  have e:=congrArg Prod.fst h2
  simp only[not_or,Decidable.not_not] at hc
  exact⟨e.symm,by rw[hx,hc.1],by rw[hf,hc.2.1],by rw[hn,hc.2.2]⟩
theorem fold_inf{i:Int}{th T:Ty}{x f n:Tm}{g:List Ty}(h:(Tm.mk 9 i th [x,f,n]).inf g=(T,0)):
 T=th∧x.inf g=(th,0)∧f.inf g=(funT natT (funT listT (funT th th)),0)∧n.inf g=(listT,0):=by
 obtain⟨h1,h2⟩:=node_inf (by decide) (by decide) h
 have hx:=h1 x (by simp)
 have hf:=h1 f (by simp)
 have hn:=h1 n (by simp)
 simp only[rule,List.map_cons,List.map_nil,at0_cons0,at0_cons1,at0_cons2,reduceIte,Int.reduceEq] at h2
 by_cases hc:¬(x.inf g).1=th∨¬(f.inf g).1=funT natT (funT listT (funT th th))∨¬(n.inf g).1=listT
 ·rw [if_pos hc] at h2;cases h2
 ·rw [if_neg hc] at h2
  have e:=congrArg Prod.fst h2
  simp only[not_or,Decidable.not_not] at hc
  exact⟨e.symm,by rw[hx,hc.1],by rw[hf,hc.2.1],by rw[hn,hc.2.2]⟩
theorem succ_inf{i:Int}{th T:Ty}{x:Tm}{g:List Ty}(h:(Tm.mk 5 i th [x]).inf g=(T,0)):T=natT∧x.inf g=(natT,0):=by
 obtain⟨h1,h2⟩:=node_inf (by decide) (by decide) h
 have hx:=h1 x (by simp)
 simp only[rule,List.map_cons,List.map_nil,at0_cons0,reduceIte,Int.reduceEq] at h2
 by_cases hc:¬(x.inf g).1=natT
 ·rw [if_pos hc] at h2;cases h2
 ·rw [if_neg hc] at h2
  have e:=congrArg Prod.fst h2
  exact⟨e.symm,by rw[hx,Decidable.not_not.1 hc]⟩
theorem cons_inf{i:Int}{th T:Ty}{x y:Tm}{g:List Ty}(h:(Tm.mk 8 i th [x,y]).inf g=(T,0)):T=listT∧x.inf g=(natT,0)∧y.inf g=(listT,0):=by
 obtain⟨h1,h2⟩:=node_inf (by decide) (by decide) h
 have hx:=h1 x (by simp)
 have hy:=h1 y (by simp)
 simp only[rule,List.map_cons,List.map_nil,at0_cons0,at0_cons1,reduceIte,Int.reduceEq] at h2
 by_cases hc:¬(x.inf g).1=natT∨¬(y.inf g).1=listT
 ·rw [if_pos hc] at h2;cases h2
 ·rw [if_neg hc] at h2
  have e:=congrArg Prod.fst h2
  simp only[not_or,Decidable.not_not] at hc
  exact⟨e.symm,by rw[hx,hc.1],by rw[hy,hc.2]⟩
theorem apt_inf{f x:Tm}{a b:Ty}{g:List Ty}(hf:f.inf g=(funT a b,0))(hx:x.inf g=(a,0)):(apT f x).inf g=(b,0):=inf_app hf hx
theorem mkrec_inf{th:Ty}{x f n:Tm}{g:List Ty}(hx:x.inf g=(th,0))(hf:f.inf g=(funT natT (funT th th),0))(hn:n.inf g=(natT,0))(i:Int):(Tm.mk 6 i th [x,f,n]).inf g=(th,0):=by
 rw[Tm.inf_eq]
 simp[Tm.infs,hx,hf,hn,rule]
theorem mkfold_inf{th:Ty}{x f n:Tm}{g:List Ty}(hx:x.inf g=(th,0))(hf:f.inf g=(funT natT (funT listT (funT th th)),0))(hn:n.inf g=(listT,0))(i:Int):(Tm.mk 9 i th [x,f,n]).inf g=(th,0):=by
 rw[Tm.inf_eq]
 simp[Tm.infs,hx,hf,hn,rule]
theorem rv_inf{t u:Tm}(hv:RV t u){g:List Ty}{T:Ty}(hs:t.shape=true)(h:t.inf g=(T,0)):u.inf g=(T,0):=by
 cases hv with
 |beta i th j s b a=>
  have hb:b.shape=true:=shape_args (shape_args hs (.mk 2 j s [b]) (by simp)) b (by simp)
  have ha:a.shape=true:=shape_args hs a (by simp)
  obtain⟨h1,h2⟩:=inf_node (by simp) (by simp) h
  have hf:(Tm.mk 2 j s [b]).inf g=(((Tm.mk 2 j s [b]).inf g).1,0):=by rw[←h1 (.mk 2 j s [b]) (by simp)]
  obtain⟨h3,h4⟩:=inf_lam_inv hf
  have ha0:=h1 a (by simp)
  simp only[Tm.kind_mk,Tm.ty_mk,Tm.args_mk,List.map_cons,List.map_nil,h4] at h2
  have h5:s=(a.inf g).1∧(b.inf (g++[s])).1=T:=by
   simp only[rule,at0,List.getD_cons_zero,List.getD_cons_succ,funT_kind,funT_args] at h2
   by_cases h6:s=(a.inf g).1
   ·refine ⟨h6,?_⟩
    simp[h6] at h2
    rw[h6];exact h2
   ·simp [h6] at h2
  have hσ:a.inf g=(s,0):=by rw[h5.1,←ha0]
  have hp:=put_inf b a g [] s 0 0 hb ha rfl hσ
  rw[List.append_nil,List.append_nil] at hp
  rw[hp,←h5.2,←h3]
 |rz i th x f j s=>obtain⟨rfl,h1,_⟩:=rec_inf h;exact h1
 |fz i th x f j s=>obtain⟨rfl,h1,_⟩:=fold_inf h;exact h1
 |rs i th x f j s n=>
  obtain⟨rfl,h1,h2,h3⟩:=rec_inf h
  obtain⟨_,h4⟩:=succ_inf h3
  exact apt_inf (apt_inf h2 h4) (mkrec_inf h1 h2 h4 0)
 |fs i th x f j s n l=>
  obtain⟨rfl,h1,h2,h3⟩:=fold_inf h
  obtain⟨_,h4,h5⟩:=cons_inf h3
  exact apt_inf (apt_inf (apt_inf h2 h4) h5) (mkfold_inf h1 h2 h5 0)
 |p1 i th j s _ y=>
  obtain⟨h1,h2⟩:=inf_node (by simp) (by simp) h
  have hf:(Tm.mk 10 j s [u,y]).inf g=(((Tm.mk 10 j s [u,y]).inf g).1,0):=by rw[←h1 (.mk 10 j s [u,y]) (by simp)]
  obtain⟨h3,h4,h5⟩:=pair_inf hf
  simp only[Tm.kind_mk,Tm.ty_mk,Tm.args_mk,List.map_cons,List.map_nil,h5] at h2
  simp[rule,at0] at h2
  rw[←h2,←h3]
 |p2 i th j s y _=>
  obtain⟨h1,h2⟩:=inf_node (by simp) (by simp) h
  have hf:(Tm.mk 10 j s [y,u]).inf g=(((Tm.mk 10 j s [y,u]).inf g).1,0):=by rw[←h1 (.mk 10 j s [y,u]) (by simp)]
  obtain⟨h3,h4,h5⟩:=pair_inf hf
  simp only[Tm.kind_mk,Tm.ty_mk,Tm.args_mk,List.map_cons,List.map_nil,h5] at h2
  simp[rule,at0] at h2
  rw[←h2,←h4]
theorem nx_inf(room:Int)(t:Tm):∀(g:List Ty) (T:Ty) (u:Tm),t.shape=true→t.inf g=(T,0)→nxR room t=some (u,true)→u.inf g=(T,0):=by
 induction t using Tm.ind with
 |h t ih=>
  intro g T u hs h hn
  rw[nxR_eq] at hn
  by_cases hr:rootT t=true
  ·rw [if_pos hr] at hn
   split at hn
   ·cases hn
   ·cases hn
    exact rv_inf (root_rv hs hr) hs h
  ·rw [if_neg hr,Option.map_eq_some_iff] at hn
   obtain⟨q,h1,h2⟩:=hn
   obtain⟨m,hm,v,h3,h4⟩:=nxRs_some _ _ _ h1
   have e2:=congrArg Prod.snd h2
   have e1:=congrArg Prod.fst h2
   simp only at e1 e2
   rw[e2] at h3
   rw[←e1,h4]
   have hargs:=shape_args hs
   have hx:=hargs _ (List.getElem_mem hm)
   have hmem:=List.getElem_mem hm
   by_cases k1:t.kind=1
   ·exact absurd (var_args hs k1) (fun hh=>by rw[hh] at hm;simp at hm)
   ·have key:∀g' T',(t.args[m]).inf g'=(T',0)→v.inf g'=(T',0):=fun g' T' hi=>ih _ hmem g' T' v hx hi h3
    by_cases k2:t.kind=2
    ·obtain ⟨i,th,b,rfl,hb⟩:=mkArgs1 hs k2 rfl
     obtain⟨h5,h6⟩:=inf_lam_inv h
     have hm0:m=0:=by simp at hm;omega
     subst hm0
     simp only[Tm.args_mk,List.getElem_cons_zero] at*
     have q1:=key (g++[th]) (b.inf (g++[th])).1 (by rw[←h5])
     have:v.inf (g++[th])=b.inf (g++[th]):=by rw[q1,←h5]
     rw[←h]
     simp only[List.set_cons_zero,Tm.kind_mk,Tm.ty_mk,Tm.index_mk]
     exact lam_congr this
    ·obtain ⟨h5,h6⟩:=inf_node k1 k2 h
     have h7:=h5 _ hmem
     have q1:=key g (t.args[m].inf g).1 (by rw[←h7])
     have hi:v.inf g=(t.args[m]).inf g:=by rw[q1,←h7]
     rw[←h,Tm.inf_eq g (Tm.mk t.kind t.index t.ty (t.args.set m v)),if_neg (show ¬(Tm.mk t.kind t.index t.ty (t.args.set m v)).kind=1 from k1),if_neg (show ¬(Tm.mk t.kind t.index t.ty (t.args.set m v)).kind=2 from k2),t.inf_eq,if_neg k1,if_neg k2]
     show(if(Tm.infs g (t.args.set m v)).2≠0 then(noTy,(Tm.infs g (t.args.set m v)).2) else rule t.kind t.ty (Tm.infs g (t.args.set m v)).1)=_
     rw[infs_set g v t.args m hm hi]
theorem nrm_inf:∀(k:Nat) (t:Tm) (n:Nat) (g:List Ty) (T:Ty),t.err=0→t.inf g=(T,0)→(nrm k t n).2.2=0→(nrm k t n).1.inf g=(T,0)
 |0,t,n,g,T,he,hi,h=>by
  simp only[nrm] at h ⊢
  cases hx:nxR (4096-t.size) t with
  |none=>exact hi
  |some p=>rw[hx] at h;cases h
 |k+1,t,n,g,T,he,hi,h=>by
  simp only[nrm] at h ⊢
  cases hx:nxR (4096-t.size) t with
  |none=>exact hi
  |some p=>
   obtain⟨x,f⟩:=p
   rw[hx] at h
   cases f with
   |false=>cases h
   |true=>exact nrm_inf k x (n+1) g T (nx_err he hx) (nx_inf _ t g T x (err_zero he).1 hi hx) h
theorem normR_ok{t:Tm}{steps:Int}(h:(normR t steps).2.2=0):t.err=0∧(normR t steps).1.err=0∧Pst t (normR t steps).1∧nf (normR t steps).1∧∀g T,t.inf g=(T,0)→(normR t steps).1.inf g=(T,0):=by
 unfold normR at h ⊢
 by_cases h1:t.err≠0
 ·rw [if_pos h1] at h;exact absurd h h1
 ·rw [if_neg h1] at h ⊢
  have h1':t.err=0:=Decidable.not_not.1 h1
  by_cases h2:¬(0≤steps∧steps≤65536)∨t.near=false
  ·rw [if_pos h2] at h;cases h
  ·rw [if_neg h2] at h ⊢
   obtain⟨a,b,c⟩:=nrm_ok _ t 0 h1' h
   exact⟨h1',c,a,b,fun g T hi=>nrm_inf _ t 0 g T h1' hi h⟩
end Go.Ab
namespace Go.Ab
open Go
set_option linter.all false
structure Ck where
 lems:List Fm
 tys:List Ty
 hyps:List Fm
def Ck.view(c:Ck):List V:=[.s .fm c.lems,.s .ty c.tys,.s .fm c.hyps]
def Ck.below(c:Ck)(l:List Ty):Ck:=⟨c.lems,c.tys++l,c.hyps.map fun f=>f.lft 0 l.length⟩
def Ck.with_(c:Ck)(f:Fm):Ck:=⟨c.lems,c.tys,c.hyps++[f]⟩
def Ck.room(c:Ck)(v h:Nat):Int:=if c.tys.length+v>16∨c.hyps.length+h>16 then 3 else 0
def unionI(a b:List Int):List Int:=sortI (nub (nub [] a) b)
def outI(l:List Int)(n:Int):List Int:=(l.filter fun x=>decide (x≥n)).map (·-n)
def hasI:List Int→Bool
 |[]=>false
 |x::_=>x==0
def freeT(t:Tm):List Int:=if t.err=0 then usesI t else []
def putK(f:Fm)(t:Tm):Fm×Int:=(if putFErr f 0 t=0 then f.put 0 t else noFm,putFErr f 0 t)
def kTyp(c:Ck)(t:Tm)(k:Int):Int:=if(typeOf c.tys t).2≠0 then(typeOf c.tys t).2 else if(typeOf c.tys t).1.kind≠k then 7 else 0
def nrmTs:List Tm→List Tm×Int
 |[]=>([],0)
 |t::l=>if(normR t 1000).2.2≠0 then([],(normR t 1000).2.2) else if(nrmTs l).2≠0 then([],(nrmTs l).2) else((normR t 1000).1::(nrmTs l).1,0)
mutual
def normF:Fm→Fm×Int
 | .mk k h ts zs=>if(nrmTs ts).2≠0 then(noFm,(nrmTs ts).2) else if(normFs zs).2≠0 then(noFm,(normFs zs).2) else(.mk k h (nrmTs ts).1 (normFs zs).1,0)
def normFs:List Fm→List Fm×Int
 |[]=>([],0)
 |f::l=>if(normF f).2≠0 then([],(normF f).2) else if(normFs l).2≠0 then([],(normFs l).2) else((normF f).1::(normFs l).1,0)
end
mutual
def contF:Fm→Bool
 | .mk k _ _ zs=>if k=1 then false else if k=2 then(contFs zs).getD 0 false||(contFs zs).getD 1 false else if k=5 then true else(contFs zs).getLastD false
def contFs:List Fm→List Bool
 |[]=>[]
 |f::l=>contF f::contFs l
end
abbrev Res:=Fm×List Int×Int
abbrev Rs:=Ck→Res
def noRes(e:Int):Res:=(noFm,[],e)
def partR(r:Rs)(c:Ck)(f:Fm)(t:Tm):List Int×Int:=
 if(r c).2.2≠0 then([],(r c).2.2) else if(putK f t).2≠0 then([],(putK f t).2) else((r c).2.1,mtchF (putK f t).1 (r c).1)
def finR(r:Res):Res:=if r.2.2≠0 then noRes r.2.2 else if r.1.err≠0 then noRes 4 else(r.1,if contF r.1=true then r.2.1 else [],0)
def hypR(c:Ck)(i:Int):Res:=if i≥c.hyps.length then noRes 8 else(c.hyps.getD (c.hyps.length-1-i.toNat) noFm,[],0)
def lemR(c:Ck)(i:Int):Res:=if i≥c.lems.length then noRes 9 else(c.lems.getD i.toNat noFm,[],0)
def andR(r0 r1:Rs)(c:Ck):Res:=if(r0 c).2.2≠0 then noRes (r0 c).2.2 else(twoF 2 (r0 c).1 (r1 c).1,unionI (r0 c).2.1 (r1 c).2.1,(r1 c).2.2)
def prjR(j:Nat)(r0:Rs)(c:Ck):Res:=if(r0 c).2.2≠0 then noRes (r0 c).2.2 else if(r0 c).1.kind≠2 then noRes 10 else((r0 c).1.args.getD j noFm,(r0 c).2.1,0)
def impiR(f:Fm)(r0:Rs)(c:Ck):Res:=
 if typedFC c.tys f≠0 then noRes (typedFC c.tys f) else if c.room 0 1≠0 then noRes 3 else(twoF 3 f (r0 (c.with_ f)).1,(r0 (c.with_ f)).2.1,(r0 (c.with_ f)).2.2)
def impeR(r0 r1:Rs)(c:Ck):Res:=
 if(r0 c).2.2≠0 then noRes (r0 c).2.2 else if(r0 c).1.kind≠3 then noRes 10 else if(r1 c).2.2≠0 then noRes (r1 c).2.2
 else((r0 c).1.args.getD 1 noFm,unionI (r0 c).2.1 (r1 c).2.1,mtchF ((r0 c).1.args.getD 0 noFm) (r1 c).1)
def allR(k:Int)(s:Ty)(r0:Rs)(c:Ck):Res:=
 if c.room 1 0≠0 then noRes 3 else if(r0 (c.below [s])).2.2≠0 then noRes (r0 (c.below [s])).2.2
 else if k=8 then(quF 4 s (r0 (c.below [s])).1,outI (r0 (c.below [s])).2.1 1,0)
 else if hasI (r0 (c.below [s])).2.1=true then noRes 12 else(quF 6 s (r0 (c.below [s])).1,outI (r0 (c.below [s])).2.1 1,0)
def kI(k u a b:Int):Int:=if k=u then a else b
def kL(k u:Int)(a b:List Int):List Int:=if k=u then a else b
theorem getD_at{α:Type}{l:List α}{i:Nat}(h:i<l.length)(d:α):l.getD i d=l[i]:=by simp[List.getD,h]
def atR(k:Int)(t:Tm)(r0:Rs)(c:Ck):Res:=
 if(typeOf c.tys t).2≠0 then noRes (typeOf c.tys t).2 else if(r0 c).2.2≠0 then noRes (r0 c).2.2
 else if(r0 c).1.kind≠kI k 13 6 4 then noRes 10 else if(r0 c).1.ty≠(typeOf c.tys t).1 then noRes 7
 else((putK ((r0 c).1.args.getD 0 noFm) t).1,kL k 13 (r0 c).2.1 (unionI (r0 c).2.1 (freeT t)),(putK ((r0 c).1.args.getD 0 noFm) t).2)
def exR(k:Int)(f:Fm)(t:Tm)(r0:Rs)(c:Ck):Res:=
 if typedFC c.tys f≠0 then noRes (typedFC c.tys f) else if f.kind≠kI k 14 7 5 then noRes 10
 else if(typeOf c.tys t).2≠0 then noRes (typeOf c.tys t).2 else if f.ty≠(typeOf c.tys t).1 then noRes 7
 else(f,kL k 14 (partR r0 c (f.args.getD 0 noFm) t).1 (unionI (partR r0 c (f.args.getD 0 noFm) t).1 (freeT t)),(partR r0 c (f.args.getD 0 noFm) t).2)
def freeR(f:Fm):Fm×Int:=
 if timesF 0 f=0 then(f,0) else if(normF f).2≠0 then(noFm,(normF f).2) else if timesF 0 (normF f).1≠0 then(noFm,6) else((normF f).1,0)
def openB(r1:Rs)(c:Ck)(a:Fm):Res:=r1 ((c.below [a.ty]).with_ (a.args.getD 0 noFm))
def opnR(k:Int)(r0 r1:Rs)(c:Ck):Res:=
 if(r0 c).2.2≠0 then noRes (r0 c).2.2 else if(r0 c).1.kind≠kI k 15 7 5 then noRes 10 else if c.room 1 1≠0 then noRes 3
 else if(openB r1 c (r0 c).1).2.2≠0 then noRes (openB r1 c (r0 c).1).2.2
 else if(freeR (openB r1 c (r0 c).1).1).2≠0 then noRes (freeR (openB r1 c (r0 c).1).1).2
 else if k=15∧hasI (openB r1 c (r0 c).1).2.1=true then noRes 12
 else((freeR (openB r1 c (r0 c).1).1).1.lft 1 (-1),unionI (r0 c).2.1 (outI (openB r1 c (r0 c).1).2.1 1),0)
def indR(f:Fm)(t:Tm)(r0 r1:Rs)(c:Ck):Res:=
 if typedF (c.tys++[natT]) f≠0 then noRes (typedF (c.tys++[natT]) f) else if kTyp c t 1≠0 then noRes (kTyp c t 1)
 else if(partR r0 c f zT).2≠0 then noRes (partR r0 c f zT).2 else if c.room 1 1≠0 then noRes 3
 else if(partR r1 ((c.below [natT]).with_ f) (f.lft 1 1) (sT (vT 0))).2≠0 then noRes (partR r1 ((c.below [natT]).with_ f) (f.lft 1 1) (sT (vT 0))).2
 else((putK f t).1,unionI (unionI (freeT t) (partR r0 c f zT).1) (outI (partR r1 ((c.below [natT]).with_ f) (f.lft 1 1) (sT (vT 0))).1 1),(putK f t).2)
def nilM:Tm:= .mk 7 0 (.mk 0 []) []
def consM:Tm:= .mk 8 0 (.mk 0 []) [vT 1,vT 0]
def listR(f:Fm)(t:Tm)(r0 r1:Rs)(c:Ck):Res:=
 if typedF (c.tys++[listT]) f≠0 then noRes (typedF (c.tys++[listT]) f) else if kTyp c t 2≠0 then noRes (kTyp c t 2)
 else if(partR r0 c f nilM).2≠0 then noRes (partR r0 c f nilM).2 else if c.room 2 1≠0 then noRes 3
 else if(partR r1 ((c.below [natT,listT]).with_ (f.lft 1 1)) (f.lft 1 2) consM).2≠0 then noRes (partR r1 ((c.below [natT,listT]).with_ (f.lft 1 1)) (f.lft 1 2) consM).2
 else((putK f t).1,unionI (unionI (freeT t) (partR r0 c f nilM).1) (outI (partR r1 ((c.below [natT,listT]).with_ (f.lft 1 1)) (f.lft 1 2) consM).1 2),(putK f t).2)
def reflR(t:Tm)(c:Ck):Res:=(eqF t t,[],kTyp c t 1)
def substR(f:Fm)(r0 r1:Rs)(c:Ck):Res:=
 if typedF (c.tys++[natT]) f≠0 then noRes (typedF (c.tys++[natT]) f) else if(r0 c).2.2≠0 then noRes (r0 c).2.2 else if(r0 c).1.kind≠1 then noRes 10
 else if(partR r1 c f ((r0 c).1.terms.getD 0 noTm)).2≠0 then noRes (partR r1 c f ((r0 c).1.terms.getD 0 noTm)).2
 else((putK f ((r0 c).1.terms.getD 1 noTm)).1,(partR r1 c f ((r0 c).1.terms.getD 0 noTm)).1,(putK f ((r0 c).1.terms.getD 1 noTm)).2)
def appV:Tm:=apT (vT 1) (vT 0)
def chB(a:Fm):Fm×Int:=putK (((a.args.getD 0 noFm).args.getD 0 noFm).lft 2 1) appV
def chF(a:Fm):Ty:=funT a.ty (a.args.getD 0 noFm).ty
def choiceR(r0:Rs)(c:Ck):Res:=
 if(r0 c).2.2≠0 then noRes (r0 c).2.2 else if(r0 c).1.kind≠4∨((r0 c).1.args.getD 0 noFm).kind≠5 then noRes 10 else if(chF (r0 c).1).err≠0 then noRes 4
 else(quF 5 (chF (r0 c).1) (quF 4 (r0 c).1.ty (chB (r0 c).1).1),(r0 c).2.1,(chB (r0 c).1).2)
def ruleR(k i:Int)(s:Ty)(ts:List Tm)(fs:List Fm)(rs:List Rs)(c:Ck):Res:=
 if k=1 then hypR c i else if k=2 then lemR c i else if k=3 then andR (rs.getD 0 fun _=>noRes 0) (rs.getD 1 fun _=>noRes 0) c
 else if k=4∨k=5 then prjR (k-4).toNat (rs.getD 0 fun _=>noRes 0) c
 else if k=6 then impiR (fs.getD 0 noFm) (rs.getD 0 fun _=>noRes 0) c
 else if k=7 then impeR (rs.getD 0 fun _=>noRes 0) (rs.getD 1 fun _=>noRes 0) c
 else if k=8∨k=12 then allR k s (rs.getD 0 fun _=>noRes 0) c
 else if k=9∨k=13 then atR k (ts.getD 0 noTm) (rs.getD 0 fun _=>noRes 0) c
 else if k=10∨k=14 then exR k (fs.getD 0 noFm) (ts.getD 0 noTm) (rs.getD 0 fun _=>noRes 0) c
 else if k=11∨k=15 then opnR k (rs.getD 0 fun _=>noRes 0) (rs.getD 1 fun _=>noRes 0) c
 else if k=16 then indR (fs.getD 0 noFm) (ts.getD 0 noTm) (rs.getD 0 fun _=>noRes 0) (rs.getD 1 fun _=>noRes 0) c
 else if k=17 then listR (fs.getD 0 noFm) (ts.getD 0 noTm) (rs.getD 0 fun _=>noRes 0) (rs.getD 1 fun _=>noRes 0) c
 else if k=18 then reflR (ts.getD 0 noTm) c
 else if k=19 then substR (fs.getD 0 noFm) (rs.getD 0 fun _=>noRes 0) (rs.getD 1 fun _=>noRes 0) c
 else choiceR (rs.getD 0 fun _=>noRes 0) c
mutual
def infP:Pf→Rs
 | .mk k i s ts fs zs=>fun c=>finR (ruleR k i s ts fs (infPs zs) c)
def infPs:List Pf→List Rs
 |[]=>[]
 |p::l=>infP p::infPs l
end
theorem infPs_eq:∀l:List Pf,infPs l=l.map infP
 |[]=>rfl
 |p::l=>by rw[infPs,infPs_eq l];rfl
theorem infP_eq(p:Pf)(c:Ck):infP p c=finR (ruleR p.kind p.index p.ty p.terms p.forms (p.args.map infP) c):=by cases p;simp only[infP,infPs_eq];rfl
theorem contFs_eq:∀l:List Fm,contFs l=l.map contF
 |[]=>rfl
 |p::l=>by rw[contFs,contFs_eq l];rfl
theorem contF_eq(f:Fm):contF f=if f.kind=1 then false else if f.kind=2 then(f.args.map contF).getD 0 false||(f.args.map contF).getD 1 false else if f.kind=5 then true else(f.args.map contF).getLastD false:=by
 cases f;simp only[contF,contFs_eq];rfl
theorem normF_eq(f:Fm):normF f=if(nrmTs f.terms).2≠0 then(noFm,(nrmTs f.terms).2) else if(normFs f.args).2≠0 then(noFm,(normFs f.args).2) else(.mk f.kind f.ty (nrmTs f.terms).1 (normFs f.args).1,0):=by
 cases f;simp only[normF];rfl
theorem room_ok{c:Ck}{v h:Nat}(hr:c.room v h=0):c.tys.length+v≤16∧c.hyps.length+h≤16:=by
 unfold Ck.room at hr
 split at hr
 ·cases hr
 ·rename_i hc;omega
theorem room_no{c:Ck}{v h:Nat}(hr:c.room v h≠0):c.room v h=3:=by unfold Ck.room at*;split<;>simp_all
theorem firstErr_of:∀{g:List Ty},(∀x∈g,x.err=0)→firstErr g=0
 |[],_=>rfl
 |x::l,h=>by
  simp only[firstErr]
  rw[if_neg (by simp[h x (by simp)])]
  exact firstErr_of fun y hy=>h y (by simp[hy])
theorem ctxErr_of{g:List Ty}(hl:g.length≤16)(h:∀x∈g,x.err=0):ctxErr g=0:=by
 unfold ctxErr
 rw[if_neg (by omega)]
 exact firstErr_of h
theorem firstI_zero{α:Type}{f:α→Int}:∀{l:List α},firstI f l=0→∀x∈l,f x=0
 |[],_,x,h=>by cases h
 |y::l,h,x,hx=>by
  simp only[firstI] at h
  by_cases h1:f y≠0
  ·rw [if_pos h1] at h;exact absurd h h1
  ·rw [if_neg h1] at h
   rcases List.mem_cons.1 hx with rfl|hx
   ·exact Decidable.not_not.1 h1
   ·exact firstI_zero h x hx
theorem nat_of{t:Ty}(he:t.err=0)(hk:t.kind=1):t=natT:=by
 have h:=((Ty.err_iff t).1 he).1
 obtain⟨k,zs⟩:=t
 rw[Ty.shape_eq,Bool.and_eq_true] at h
 have h1:=h.1
 simp only[Ty.kind,Ty.args] at hk h1
 subst hk
 have h2:zs.length=0:=by simpa [arT] using h1
 rw[List.eq_nil_of_length_eq_zero h2];rfl
theorem list_of{t:Ty}(he:t.err=0)(hk:t.kind=2):t=listT:=by
 have h:=((Ty.err_iff t).1 he).1
 obtain⟨k,zs⟩:=t
 rw[Ty.shape_eq,Bool.and_eq_true] at h
 have h1:=h.1
 simp only[Ty.kind,Ty.args] at hk h1
 subst hk
 have h2:zs.length=0:=by simpa [arT] using h1
 rw[List.eq_nil_of_length_eq_zero h2];rfl
theorem typed_inv{g:List Ty}{t:Tm}(hg:∀x∈g,x.err=0)(h:(typed g t).2=0):t.err=0∧t.inf g=((typed g t).1,0)∧(typed g t).1.err=0:=by
 unfold typed at h ⊢
 by_cases h1:t.err≠0
 ·rw [if_pos h1] at h;exact absurd h h1
 ·rw [if_neg h1] at h ⊢
  have h1':=Decidable.not_not.1 h1
  exact⟨h1',by rw[←h],Tm.inf_good t g ((Tm.err_iff t).1 h1').1 hg h⟩
theorem typeOf_inv{g:List Ty}{t:Tm}(h:(typeOf g t).2=0):ctxErr g=0∧t.err=0∧t.inf g=((typeOf g t).1,0)∧(typeOf g t).1.err=0:=by
 unfold typeOf at h ⊢
 by_cases h1:ctxErr g≠0
 ·rw [if_pos h1] at h;exact absurd h h1
 ·rw [if_neg h1] at h ⊢
  have h1':=Decidable.not_not.1 h1
  exact⟨h1',typed_inv (ctxErr_all h1').2 h⟩
theorem tyE_okT(f:Fm):∀g:List Ty,(∀x∈g,x.err=0)→f.shape=true→f.tyE g=0→f.okT g:=by
 induction f using Fm.ind with
 |h f ih=>
  intro g hg hs h
  rw[Fm.tyE_eq] at h
  by_cases h1:firstI (tE g) f.terms≠0
  ·rw [if_pos h1] at h;exact absurd h h1
  ·rw [if_neg h1] at h
   rw[Fm.okT_iff]
   refine⟨fun t ht=> ?_,fun x hx=> ?_⟩
   ·have h2:=firstI_zero (Decidable.not_not.1 h1) t ht
    unfold tE at h2
    by_cases h3:(typed g t).2≠0
    ·rw [if_pos h3] at h2;exact absurd h2 h3
    ·rw [if_neg h3] at h2
     obtain⟨a,b,c⟩:=typed_inv hg (Decidable.not_not.1 h3)
     by_cases h4:(typed g t).1.kind≠1
     ·rw [if_pos h4] at h2;cases h2
     ·rw [b,nat_of c (Decidable.not_not.1 h4)]
   ·have h2:=firstI_zero h x hx
    refine ih x hx _ ?_ (fshape_args hs hx) h2
    by_cases hq:quantK f.kind=true
    ·rw [ctxF_q hq]
     intro y hy
     rcases List.mem_append.1 hy with hy|hy
     ·exact hg y hy
     ·simp only[List.mem_singleton] at hy
      subst hy
      have hk:=quantK_iff.1 hq
      rcases fshape_kinds hs with⟨h5,_⟩|⟨h5,_⟩|⟨_,_,h6⟩
      ·omega
      ·omega
      ·exact h6
    ·rw [ctxF_n hq];exact hg
theorem typedF_inv{g:List Ty}{f:Fm}(hg:∀x∈g,x.err=0)(h:typedF g f=0):f.err=0∧f.okT g:=by
 unfold typedF at h
 by_cases h1:f.err≠0
 ·rw [if_pos h1] at h;exact absurd h h1
 ·rw [if_neg h1] at h
  have h1':=Decidable.not_not.1 h1
  exact⟨h1',tyE_okT f g hg ((Fm.err_iff f).1 h1').1 h⟩
theorem typedFC_inv{g:List Ty}{f:Fm}(h:typedFC g f=0):f.err=0∧f.okT g:=by
 unfold typedFC at h
 by_cases h1:ctxErr g≠0
 ·rw [if_pos h1] at h;exact absurd h h1
 ·rw [if_neg h1] at h
  exact typedF_inv (ctxErr_all (Decidable.not_not.1 h1)).2 h
theorem kTyp_inv{c:Ck}{t:Tm}{k:Int}(h:kTyp c t k=0):t.err=0∧t.inf c.tys=((typeOf c.tys t).1,0)∧(typeOf c.tys t).1.err=0∧(typeOf c.tys t).1.kind=k:=by
 unfold kTyp at h
 by_cases h1:(typeOf c.tys t).2≠0
 ·rw [if_pos h1] at h;exact absurd h h1
 ·rw [if_neg h1] at h
  obtain⟨_,a,b,d⟩:=typeOf_inv (Decidable.not_not.1 h1)
  refine⟨a,b,d,?_⟩
  by_cases h2:(typeOf c.tys t).1.kind≠k
  ·rw [if_pos h2] at h;cases h
  ·exact Decidable.not_not.1 h2
theorem inf_free(t:Tm):∀(g:List Ty) (b:Int),t.shape=true→(t.inf g).2=0→∀p∈t.vars b,p.1-p.2<g.length-b:=by
 induction t using Tm.ind with
 |h t ih=>
  intro g b hs h p hp
  have hargs:=shape_args hs
  by_cases k1:t.kind=1
  ·rw [vars_var hs k1] at hp
   simp only[List.mem_singleton] at hp
   subst hp
   rw[Tm.inf_eq,if_pos k1] at h
   by_cases hi:t.index≥g.length
   ·rw [if_pos hi] at h;cases h
   ·simp only;omega
  ·rw [vars_node k1] at hp
   obtain⟨x,hx,hp⟩:=List.mem_flatMap.1 hp
   by_cases k2:t.kind=2
   ·have e:up t.kind b=b+1:=by simp[up,k2]
    rw[e] at hp
    rw[Tm.inf_eq,if_neg k1,if_pos k2] at h
    have h0:(Tm.infs (g++[t.ty]) t.args).2=0:=by
     by_cases h1:(Tm.infs (g++[t.ty]) t.args).2≠0
     ·rw [if_pos h1] at h;exact h
     ·exact Decidable.not_not.1 h1
    have:=ih x hx (g++[t.ty]) (b+1) (hargs x hx) (Tm.infs_all _ _ h0 x hx) p hp
    simp only[List.length_append,List.length_cons,List.length_nil] at this
    omega
   ·have e:up t.kind b=b:=by simp[up,k2]
    rw[e] at hp
    exact ih x hx g b (hargs x hx) ((inf_node (T:=(t.inf g).1) k1 k2 (by rw[←h])).1 x hx) p hp
def UsesOk(n:Nat)(l:List Int):Prop:=l.Nodup∧∀u∈l,0≤u∧u<n
theorem UsesOk.nil(n:Nat):UsesOk n []:=⟨List.nodup_nil,fun u h=>by cases h⟩
theorem UsesOk.len{n:Nat}{l:List Int}(h:UsesOk n l):l.length≤n:=(nodup_len n l h.1 h.2).1
theorem mem_unionI{a b:List Int}{x:Int}:x∈unionI a b↔x∈a∨x∈b:=by
 rw[unionI,(sortI_perm _).mem_iff,mem_nub,mem_nub];simp
theorem UsesOk.union{n:Nat}{a b:List Int}(ha:∀u∈a,0≤u∧u<(n:Int))(hb:∀u∈b,0≤u∧u<(n:Int)):UsesOk n (unionI a b):=by
 refine⟨?_,fun u hu=> ?_⟩
 ·rw [unionI,(sortI_perm _).nodup_iff];exact nodup_nub (nodup_nub List.nodup_nil)
 ·rcases mem_unionI.1 hu with h|h
  ·exact ha u h
  ·exact hb u h
theorem mem_outI{l:List Int}{n x:Int}:x∈outI l n↔0≤x∧x+n∈l:=by
 simp only[outI,List.mem_map,List.mem_filter,decide_eq_true_eq]
 constructor
 ·rintro ⟨y,⟨h1,h2⟩,rfl⟩
  exact⟨by omega,by rw[Int.sub_add_cancel];exact h1⟩
 ·rintro ⟨h1,h2⟩
  exact⟨x+n,⟨h2,by omega⟩,by omega⟩
theorem UsesOk.out{n m:Nat}{l:List Int}(h:UsesOk (n+m) l):UsesOk n (outI l m):=by
 refine⟨?_,fun u hu=> ?_⟩
 ·have h1:(l.filter fun x=>decide (x≥(m:Int))).Nodup:=h.1.filter _
  unfold outI
  rw[List.nodup_iff_pairwise_ne,List.pairwise_map]
  exact(List.nodup_iff_pairwise_ne.1 h1).imp fun hne e=>hne (by omega)
 ·obtain ⟨h1,h2⟩:=mem_outI.1 hu
  have:=h.2 _ h2
  exact⟨h1,by omega⟩
theorem freeT_ok{t:Tm}{g:List Ty}{T:Ty}(h:t.inf g=(T,0)):UsesOk g.length (freeT t):=by
 unfold freeT
 by_cases he:t.err=0
 ·rw [if_pos he]
  refine⟨usesI_nodup t,fun u hu=> ?_⟩
  obtain⟨h0,h1⟩:=mem_usesI.1 hu
  refine⟨h0,?_⟩
  obtain⟨p,hp,e⟩:=mem_cnt.2 h1
  have:=inf_free t g 0 ((Tm.err_iff t).1 he).1 (by rw[h]) p hp
  omega
 ·rw [if_neg he];exact .nil _
theorem inf_weak{t:Tm}{g:List Ty}(m:List Ty)(hs:t.shape=true)(h:(t.inf g).2=0):t.inf (m++g)=t.inf g:=by
 have h1:=lift_inf t [] m g g.length 0 hs (by omega)
 rw[List.nil_append,List.nil_append] at h1
 rw[←h1]
 congr 1
 refine(re_id t 0 hs fun p hp=> ?_).symm
 have:=inf_free t g 0 hs h p hp
 rw[liftG_eq,if_neg (by omega)]
theorem fokT_weak(f:Fm):∀(g m:List Ty),f.shape=true→f.okT g→f.okT (m++g):=by
 induction f using Fm.ind with
 |h f ih=>
  intro g m hs hok
  rw[Fm.okT_iff] at hok ⊢
  refine⟨fun t ht=> ?_,fun x hx=> ?_⟩
  ·have:=hok.1 t ht
   rw[inf_weak m (fshape_terms hs ht) (by rw[this])];exact this
  ·have:=ih x hx _ m (fshape_args hs hx) (hok.2 x hx)
   by_cases hq:quantK f.kind=true
   ·rw [ctxF_q hq] at this ⊢;rw[List.append_assoc];exact this
   ·rw [ctxF_n hq] at this ⊢;exact this
theorem part_err{f x:Fm}(hf:f.err=0)(hx:x∈f.args):x.err=0:=by
 have h:=(Fm.err_iff f).1 hf
 have h1:=lsum_mem Fm.size hx
 have h2:=f.size_eq
 exact(Fm.err_iff x).2 ⟨fshape_args h.1 hx,by omega⟩
theorem term_err{f:Fm}{t:Tm}(hf:f.err=0)(ht:t∈f.terms):t.err=0:=by
 have h:=(Fm.err_iff f).1 hf
 have h1:=lsum_mem Tm.size ht
 have h2:=f.size_eq
 exact(Tm.err_iff t).2 ⟨fshape_terms h.1 ht,by omega⟩
theorem two_of{f:Fm}(hs:f.shape=true)(hk:f.kind=2∨f.kind=3):∃a b,f=twoF f.kind a b:=by
 rw[Fm.shape_eq,Bool.and_eq_true,Bool.and_eq_true] at hs
 have h1:=hs.1.1
 unfold Fm.head at h1
 rw[if_neg (by omega),if_pos hk] at h1
 simp only[Bool.and_eq_true,beq_iff_eq] at h1
 clear hs
 obtain⟨k,h,ts,zs⟩:=f
 simp only[Fm.kind_mk,Fm.terms_mk,Fm.args_mk] at h1 hk
 have e1:ts=[]:=List.eq_nil_of_length_eq_zero h1.1.2
 match zs,h1 with
 |[a,b],h1=>
  refine⟨a,b,?_⟩
  have e2:h= .mk 0 []:=Ty.no_of (by simp_all)
  rw[e1,e2];rfl
 |[],h1=>simp at h1
 |[a],h1=>simp at h1
 |a::b::c::l,h1=>simp at h1
theorem qu_of{f:Fm}(hs:f.shape=true)(hk:4≤f.kind∧f.kind≤7):∃a,f=quF f.kind f.ty a:=by
 rw[Fm.shape_eq,Bool.and_eq_true,Bool.and_eq_true] at hs
 have h1:=hs.1.1
 unfold Fm.head at h1
 rw[if_neg (by omega),if_neg (by omega),if_pos (by omega)] at h1
 simp only[Bool.and_eq_true,beq_iff_eq] at h1
 clear hs
 obtain⟨k,h,ts,zs⟩:=f
 simp only[Fm.kind_mk,Fm.terms_mk,Fm.args_mk] at h1 hk
 have e1:ts=[]:=List.eq_nil_of_length_eq_zero h1.1.2
 match zs,h1 with
 |[a],h1=>exact⟨a,by rw[e1];rfl⟩
 |[],h1=>simp at h1
 |a::b::l,h1=>simp at h1
theorem eq_of{f:Fm}(hs:f.shape=true)(hk:f.kind=1):∃a b,f=eqF a b:=by
 rw[Fm.shape_eq,Bool.and_eq_true,Bool.and_eq_true] at hs
 have h1:=hs.1.1
 unfold Fm.head at h1
 rw[if_pos hk] at h1
 simp only[Bool.and_eq_true,beq_iff_eq] at h1
 clear hs
 obtain⟨k,h,ts,zs⟩:=f
 simp only[Fm.kind_mk,Fm.terms_mk,Fm.args_mk] at h1 hk
 have e1:zs=[]:=List.eq_nil_of_length_eq_zero h1.2
 match ts,h1 with
 |[a,b],h1=>
  have e2:h= .mk 0 []:=Ty.no_of (by simp_all)
  exact⟨a,b,by rw[e1,e2,hk];rfl⟩
 |[],h1=>simp at h1
 |[a],h1=>simp at h1
 |a::b::c::l,h1=>simp at h1
theorem qu_err{f:Fm}(hf:f.shape=true)(hk:4≤f.kind∧f.kind≤7):f.ty.err=0:=by
 rcases fshape_kinds hf with⟨h,_⟩|⟨h,_⟩|⟨_,_,h⟩
 ·omega
 ·omega
 ·exact h
theorem two_okT{k:Int}{a b:Fm}{g:List Ty}(hk:k=2∨k=3)(h:(twoF k a b).okT g):a.okT g∧b.okT g:=by
 rw[Fm.okT_iff] at h
 have e:ctxF g (twoF k a b)=g:=ctxF_n (by show ¬quantK k=true;rw[quantK_iff];omega)
 rw[e] at h
 exact⟨h.2 a (by simp[twoF]),h.2 b (by simp[twoF])⟩
theorem qu_okT{k:Int}{s:Ty}{a:Fm}{g:List Ty}(hk:4≤k∧k≤7)(h:(quF k s a).okT g):a.okT (g++[s]):=by
 rw[Fm.okT_iff] at h
 have e:ctxF g (quF k s a)=g++[s]:=ctxF_q (quantK_iff.2 hk)
 rw[e] at h
 exact h.2 a (by simp[quF])
theorem eq_okT{a b:Tm}{g:List Ty}:(eqF a b).okT g↔a.inf g=(natT,0)∧b.inf g=(natT,0):=by
 rw[Fm.okT_iff]
 simp[eqF]
theorem two_shape_iff{k:Int}{a b:Fm}(hk:k=2∨k=3)(ha:a.shape=true)(hb:b.shape=true):(twoF k a b).shape=true:=by
 rw[Fm.shape_eq]
 rcases hk with rfl|rfl<;>simp[twoF,Fm.head,ha,hb,Ty.isNo,Ty.kind,Ty.args]
theorem qu_shape_iff{k:Int}{s:Ty}{a:Fm}(hk:4≤k∧k≤7)(hs:s.err=0)(ha:a.shape=true):(quF k s a).shape=true:=by
 rw[Fm.shape_eq]
 have h1:=(Ty.err_iff s).1 hs
 have h2:s.ok=true:=ok_of h1.1 h1.2
 have:k=4∨k=5∨k=6∨k=7:=by omega
 rcases this with rfl|rfl|rfl|rfl<;>simp[quF,Fm.head,ha,h2]
theorem twoF_size(k:Int)(a b:Fm):(twoF k a b).size=1+a.size+b.size:=by rw[Fm.size_eq];simp[twoF];omega
theorem quF_size(k:Int)(s:Ty)(a:Fm):(quF k s a).size=1+a.size:=by rw[Fm.size_eq];simp[quF]
theorem lft_okTs{f:Fm}{g h:List Ty}(m:List Ty)(hf:f.shape=true)(hok:f.okT (g++h)):(f.lft h.length m.length).okT (g++m++h):=by
 have:=fokT_lft g m h.length f h 0 (by omega) hf hok
 exact this
theorem putK_ok{f:Fm}{t:Tm}{g:List Ty}{σ:Ty}(hf:f.okT (g++[σ]))(ht:t.inf g=(σ,0))(h:(putK f t).2=0):(putK f t).1.err=0∧(putK f t).1.okT g:=by
 have h':putFErr f 0 t=0:=h
 have e:(putK f t).1=f.put 0 t:=if_pos h'
 obtain⟨h1,h2,_⟩:=putFErr_zero h'
 rw[e]
 refine⟨putF_err (by omega) h',?_⟩
 have h3:=fokT_put 0 t g σ ((Tm.err_iff t).1 h2).1 ht f [] 0 rfl ((Fm.err_iff f).1 h1).1 (by simpa using hf)
 rw[List.append_nil] at h3
 exact h3
structure Ck.ok (c:Ck):Prop where
 ctx:ctxErr c.tys=0
 nh:c.hyps.length≤16
 nl:c.lems.length≤32
 hyps:∀f∈c.hyps,f.err=0∧f.okT c.tys
 lems:∀f∈c.lems,f.err=0∧f.okT []
theorem Ck.ok.len{c:Ck}(h:c.ok):c.tys.length≤16:=(ctxErr_all h.ctx).1
theorem Ck.ok.all{c:Ck}(h:c.ok):∀x∈c.tys,x.err=0:=(ctxErr_all h.ctx).2
theorem Ck.ok.below{c:Ck}(h:c.ok){l:List Ty}(hl:c.tys.length+l.length≤16)(he:∀x∈l,x.err=0):(c.below l).ok:=by
 refine⟨ctxErr_of (by simp[Ck.below];omega) fun x hx=> ?_,by simp[Ck.below];exact h.nh,h.nl,fun f hf=> ?_,h.lems⟩
 ·rcases List.mem_append.1 hx with hx|hx
  ·exact h.all x hx
  ·exact he x hx
 ·obtain ⟨y,hy,rfl⟩:=List.mem_map.1 hf
  obtain⟨h1,h2⟩:=h.hyps y hy
  refine⟨lft_err h1 (by omega),?_⟩
  have h3:=lft_okTs (g:=c.tys) (h:=[]) l ((Fm.err_iff y).1 h1).1 (by simpa using h2)
  simpa [Ck.below] using h3
theorem Ck.ok.with_{c:Ck}(h:c.ok){f:Fm}(hl:c.hyps.length+1≤16)(hf:f.err=0)(hok:f.okT c.tys):(c.with_ f).ok:=by
 refine⟨h.ctx,by simp[Ck.with_];omega,h.nl,fun y hy=> ?_,h.lems⟩
 rcases List.mem_append.1 hy with hy|hy
 ·exact h.hyps y hy
 ·simp only[List.mem_singleton] at hy
  subst hy;exact⟨hf,hok⟩
def RuleOk(c:Ck)(r:Res):Prop:=r.2.2=0→r.1.shape=true∧r.1.size≤20000000∧r.1.okT c.tys∧UsesOk c.tys.length r.2.1
def ResOk(c:Ck)(r:Res):Prop:=(r.2.2=0→r.1.err=0∧r.1.okT c.tys∧UsesOk c.tys.length r.2.1)∧(r.2.2≠0→r=noRes r.2.2)
theorem noRes_ok(c:Ck){e:Int}(he:e≠0):RuleOk c (noRes e):=fun h=>absurd h he
theorem finR_ok{c:Ck}{r:Res}(h:RuleOk c r):ResOk c (finR r):=by
 unfold finR
 by_cases h1:r.2.2≠0
 ·rw [if_pos h1];exact⟨fun h=>absurd h h1,fun _=>rfl⟩
 ·rw [if_neg h1]
  by_cases h2:r.1.err≠0
  ·rw [if_pos h2];exact⟨fun h=>absurd h (by decide),fun _=>rfl⟩
  ·rw [if_neg h2]
   obtain⟨_,_,h4,h5⟩:=h (Decidable.not_not.1 h1)
   refine⟨fun _=>⟨Decidable.not_not.1 h2,h4,?_⟩,fun h=>absurd rfl h⟩
   simp only
   split
   ·exact h5
   ·exact .nil _
def RsOk(r:Rs):Prop:=∀c,c.ok→ResOk c (r c)
theorem RsOk.good{r:Rs}(h:RsOk r){c:Ck}(hc:c.ok)(he:(r c).2.2=0):(r c).1.err=0∧(r c).1.okT c.tys∧UsesOk c.tys.length (r c).2.1:=(h c hc).1 he
theorem err_small{f:Fm}(h:f.err=0):f.shape=true∧f.size≤20000000:=by
 have:=(Fm.err_iff f).1 h;exact⟨this.1,by omega⟩
theorem hypR_ok{c:Ck}(hc:c.ok){i:Int}(hi:0≤i):RuleOk c (hypR c i):=by
 unfold hypR
 split
 ·exact noRes_ok c (by decide)
 ·rename_i h
  intro _
  have hlt:c.hyps.length-1-i.toNat<c.hyps.length:=by omega
  simp only
  rw[getD_at hlt]
  obtain⟨h1,h2⟩:=hc.hyps _ (List.getElem_mem hlt)
  exact⟨(err_small h1).1,(err_small h1).2,h2,.nil _⟩
theorem lemR_ok{c:Ck}(hc:c.ok){i:Int}(hi:0≤i):RuleOk c (lemR c i):=by
 unfold lemR
 split
 ·exact noRes_ok c (by decide)
 ·rename_i h
  intro _
  have hlt:i.toNat<c.lems.length:=by omega
  simp only
  rw[getD_at hlt]
  obtain⟨h1,h2⟩:=hc.lems _ (List.getElem_mem hlt)
  have h3:=fokT_weak _ [] c.tys (err_small h1).1 h2
  rw[List.append_nil] at h3
  exact⟨(err_small h1).1,(err_small h1).2,h3,.nil _⟩
theorem andR_ok{r0 r1:Rs}(h0:RsOk r0)(h1:RsOk r1){c:Ck}(hc:c.ok):RuleOk c (andR r0 r1 c):=by
 unfold andR
 split
 ·rename_i h;exact noRes_ok c h
 ·rename_i h
  intro he
  obtain⟨a1,a2,a3⟩:=h0.good hc (Decidable.not_not.1 h)
  obtain⟨b1,b2,b3⟩:=h1.good hc he
  have s1:=(Fm.err_iff _).1 a1
  have s2:=(Fm.err_iff _).1 b1
  exact⟨two_shape_iff (.inl rfl) s1.1 s2.1,by rw[twoF_size];omega,fokT_two (.inl rfl) a2 b2,.union a3.2 b3.2⟩
theorem prjR_ok{r0:Rs}(h0:RsOk r0){c:Ck}(hc:c.ok){j:Nat}(hj:j<2):RuleOk c (prjR j r0 c):=by
 unfold prjR
 split
 ·rename_i h;exact noRes_ok c h
 rename_i h
 split
 ·exact noRes_ok c (by decide)
 rename_i h2
 intro _
 obtain⟨a1,a2,a3⟩:=h0.good hc (Decidable.not_not.1 h)
 have s1:=(Fm.err_iff _).1 a1
 obtain⟨x,y,e⟩:=two_of s1.1 (.inl (Decidable.not_not.1 h2))
 have hk:(r0 c).1.kind=2:=Decidable.not_not.1 h2
 rw[hk] at e
 rw[e] at a2
 obtain⟨o1,o2⟩:=two_okT (.inl rfl) a2
 have e1:=part_err a1 (x:=x) (by rw[e];simp[twoF])
 have e2:=part_err a1 (x:=y) (by rw[e];simp[twoF])
 have:(r0 c).1.args=[x,y]:=by rw[e];rfl
 simp only[this]
 rcases j with _|_|j
 ·exact ⟨(err_small e1).1,(err_small e1).2,o1,a3⟩
 ·exact ⟨(err_small e2).1,(err_small e2).2,o2,a3⟩
 ·omega
theorem impiR_ok{r0:Rs}(h0:RsOk r0){f:Fm}{c:Ck}(hc:c.ok):RuleOk c (impiR f r0 c):=by
 unfold impiR
 split
 ·rename_i h;exact noRes_ok c h
 rename_i h
 split
 ·exact noRes_ok c (by decide)
 rename_i h2
 intro he
 obtain⟨f1,f2⟩:=typedFC_inv (Decidable.not_not.1 h)
 have hr:=room_ok (Decidable.not_not.1 h2)
 obtain⟨a1,a2,a3⟩:=h0.good (hc.with_ (f:=f) hr.2 f1 f2) he
 have s1:=(Fm.err_iff _).1 a1
 have s2:=(Fm.err_iff _).1 f1
 exact⟨two_shape_iff (.inr rfl) s2.1 s1.1,by rw[twoF_size];omega,fokT_two (.inr rfl) f2 a2,a3⟩
theorem impeR_ok{r0 r1:Rs}(h0:RsOk r0)(h1:RsOk r1){c:Ck}(hc:c.ok):RuleOk c (impeR r0 r1 c):=by
 unfold impeR
 split
 ·rename_i h;exact noRes_ok c h
 rename_i h
 split
 ·exact noRes_ok c (by decide)
 rename_i h2
 split
 ·rename_i h;exact noRes_ok c h
 rename_i h3
 intro _
 obtain⟨a1,a2,a3⟩:=h0.good hc (Decidable.not_not.1 h)
 obtain⟨b1,b2,b3⟩:=h1.good hc (Decidable.not_not.1 h3)
 have s1:=(Fm.err_iff _).1 a1
 have hk:(r0 c).1.kind=3:=Decidable.not_not.1 h2
 obtain⟨x,y,e⟩:=two_of s1.1 (.inr hk)
 rw[hk] at e
 rw[e] at a2
 obtain⟨o1,o2⟩:=two_okT (.inr rfl) a2
 have e2:=part_err a1 (x:=y) (by rw[e];simp[twoF])
 have:(r0 c).1.args=[x,y]:=by rw[e];rfl
 simp only[this]
 exact⟨(err_small e2).1,(err_small e2).2,o2,.union a3.2 b3.2⟩
theorem allR_ok{r0:Rs}(h0:RsOk r0){k:Int}{s:Ty}(hs:s.err=0){c:Ck}(hc:c.ok):RuleOk c (allR k s r0 c):=by
 unfold allR
 split
 ·exact noRes_ok c (by decide)
 rename_i h
 have hr:=room_ok (Decidable.not_not.1 h)
 have hb:=hc.below (l:=[s]) hr.1 (by simpa using hs)
 split
 ·rename_i h;exact noRes_ok c h
 rename_i h2
 obtain⟨a1,a2,a3⟩:=h0.good hb (Decidable.not_not.1 h2)
 have s1:=(Fm.err_iff _).1 a1
 have hu:UsesOk c.tys.length (outI (r0 (c.below [s])).2.1 1):=by
  have:=UsesOk.out (n:=c.tys.length) (m:=1) (l:=(r0 (c.below [s])).2.1) (by simpa [Ck.below] using a3)
  exact this
 split
 ·intro _
  exact⟨qu_shape_iff (by omega) hs s1.1,by rw[quF_size];omega,fokT_qu (by omega) a2,hu⟩
 split
 ·exact noRes_ok c (by decide)
 ·intro _
  exact⟨qu_shape_iff (by omega) hs s1.1,by rw[quF_size];omega,fokT_qu (by omega) a2,hu⟩
theorem atR_ok{r0:Rs}(h0:RsOk r0){k:Int}{t:Tm}{c:Ck}(hc:c.ok):RuleOk c (atR k t r0 c):=by
 unfold atR
 split
 ·rename_i h;exact noRes_ok c h
 rename_i h
 split
 ·rename_i h;exact noRes_ok c h
 rename_i h2
 split
 ·exact noRes_ok c (by decide)
 rename_i h3
 split
 ·exact noRes_ok c (by decide)
 rename_i h4
 intro he
 obtain⟨_,t1,t2,_⟩:=typeOf_inv (Decidable.not_not.1 h)
 obtain⟨a1,a2,a3⟩:=h0.good hc (Decidable.not_not.1 h2)
 have s1:=(Fm.err_iff _).1 a1
 have hk:(r0 c).1.kind=kI k 13 6 4:=Decidable.not_not.1 h3
 have hk':4≤(r0 c).1.kind∧(r0 c).1.kind≤7:=by rw[hk,kI];split<;>omega
 obtain⟨x,e⟩:=qu_of s1.1 hk'
 rw[e] at a2
 have o1:=qu_okT hk' a2
 have hx:(r0 c).1.args.getD 0 noFm=x:=by rw[e];rfl
 rw[hx] at he ⊢
 have hty:(r0 c).1.ty=(typeOf c.tys t).1:=Decidable.not_not.1 h4
 rw[hty] at o1
 obtain⟨p1,p2⟩:=putK_ok o1 t2 he
 refine⟨(err_small p1).1,(err_small p1).2,p2,?_⟩
 simp only[kL]
 split
 ·exact a3
 ·exact .union a3.2 (freeT_ok t2).2
theorem partR_ok{r0:Rs}(h0:RsOk r0){c:Ck}(hc:c.ok)(f:Fm)(t:Tm):UsesOk c.tys.length (partR r0 c f t).1:=by
 unfold partR
 split
 ·exact .nil _
 rename_i h
 split
 ·exact .nil _
 ·exact (h0.good hc (Decidable.not_not.1 h)).2.2
theorem exR_ok{r0:Rs}(h0:RsOk r0){k:Int}{f:Fm}{t:Tm}{c:Ck}(hc:c.ok):RuleOk c (exR k f t r0 c):=by
 unfold exR
 split
 ·rename_i h;exact noRes_ok c h
 rename_i h
 split
 ·exact noRes_ok c (by decide)
 split
 ·rename_i h;exact noRes_ok c h
 rename_i h3
 split
 ·exact noRes_ok c (by decide)
 intro _
 obtain⟨f1,f2⟩:=typedFC_inv (Decidable.not_not.1 h)
 obtain⟨_,t1,t2,_⟩:=typeOf_inv (Decidable.not_not.1 h3)
 have hp:=partR_ok h0 hc (f.args.getD 0 noFm) t
 refine⟨(err_small f1).1,(err_small f1).2,f2,?_⟩
 simp only[kL]
 split
 ·exact hp
 ·exact .union hp.2 (freeT_ok t2).2
theorem nrmTs_ok:∀(l:List Tm),(nrmTs l).2=0→(nrmTs l).1.length=l.length∧(∀t∈(nrmTs l).1,t.err=0)∧∀(g:List Ty) (T:Ty),(∀t∈l,t.inf g=(T,0))→∀t∈(nrmTs l).1,t.inf g=(T,0)
 |[],_=>⟨rfl,fun t h=>absurd h (List.not_mem_nil),fun g T _ t h=>absurd h (List.not_mem_nil)⟩
 |x::l,h=>by
  simp only[nrmTs] at h ⊢
  by_cases h1:(normR x 1000).2.2≠0
  ·rw [if_pos h1] at h;exact absurd h h1
  ·rw [if_neg h1] at h ⊢
   by_cases h2:(nrmTs l).2≠0
   ·rw [if_pos h2] at h;exact absurd h h2
   ·rw [if_neg h2]
    obtain⟨a1,a2,a3⟩:=nrmTs_ok l (Decidable.not_not.1 h2)
    obtain⟨_,b1,_,_,b2⟩:=normR_ok (Decidable.not_not.1 h1)
    refine⟨by simp[a1],fun t ht=> ?_,fun g T hl t ht=> ?_⟩
    ·rcases List.mem_cons.1 ht with rfl|ht
     ·exact b1
     ·exact a2 t ht
    ·rcases List.mem_cons.1 ht with rfl|ht
     ·exact b2 g T (hl x (by simp))
     ·exact a3 g T (fun t ht=>hl t (by simp[ht])) t ht
theorem normFs_ok(P:Fm→Fm→Prop):∀(l:List Fm),(∀f∈l,(normF f).2=0→P f (normF f).1)→(normFs l).2=0→(normFs l).1.length=l.length∧∀(i:Nat) (h1:i<l.length) (h2:i<(normFs l).1.length),P l[i] (normFs l).1[i]
 |[],_,_=>⟨rfl,fun i h=>by simp at h⟩
 |x::l,hP,h=>by
  have h0:=h
  simp only[normFs] at h0
  by_cases h1:(normF x).2≠0
  ·rw [if_pos h1] at h0;exact absurd h0 h1
  ·rw [if_neg h1] at h0
   by_cases h2:(normFs l).2≠0
   ·rw [if_pos h2] at h0;exact absurd h0 h2
   ·have e:normFs (x::l)=((normF x).1::(normFs l).1,0):=by simp only[normFs];rw[if_neg h1,if_neg h2]
    obtain⟨a1,a2⟩:=normFs_ok P l (fun f hf=>hP f (by simp[hf])) (Decidable.not_not.1 h2)
    generalize normFs (x::l)=q at h e ⊢
    subst e
    refine⟨by simp[a1],fun i hi hj=> ?_⟩
    cases i with
    |zero=>exact hP x (by simp) (Decidable.not_not.1 h1)
    |succ i=>exact a2 i (by simpa using hi) (by simpa using hj)
theorem lsum_const{α:Type}{f:α→Nat}{C:Nat}:∀(l:List α),(∀x∈l,f x≤C)→(l.map f).sum≤C*l.length
 |[],_=>by simp
 |x::l,h=>by
  have h1:=lsum_const l fun y hy=>h y (by simp[hy])
  have h2:=h x (by simp)
  simp only[List.map_cons,List.sum_cons,List.length_cons,Nat.mul_add,Nat.mul_one];omega
theorem normF_ok(f:Fm):(normF f).2=0→f.shape=true→(normF f).1.kind=f.kind∧(normF f).1.shape=true∧(normF f).1.size≤4096*f.size∧∀g,f.okT g→(normF f).1.okT g:=by
 induction f using Fm.ind with
 |h f ih=>
  intro h hs
  rw[normF_eq] at h ⊢
  by_cases h1:(nrmTs f.terms).2≠0
  ·rw [if_pos h1] at h;exact absurd h h1
  rw[if_neg h1] at h ⊢
  by_cases h2:(normFs f.args).2≠0
  ·rw [if_pos h2] at h;exact absurd h h2
  rw[if_neg h2]
  obtain⟨a1,a2,a3⟩:=nrmTs_ok f.terms (Decidable.not_not.1 h1)
  obtain⟨b1,b2⟩:=normFs_ok (fun x y=>y.kind=x.kind∧y.shape=true∧y.size≤4096*x.size∧∀g,x.okT g→y.okT g) f.args (fun x hx he=>ih x hx he (fshape_args hs hx)) (Decidable.not_not.1 h2)
  have hsh:(Fm.mk f.kind f.ty (nrmTs f.terms).1 (normFs f.args).1).shape=true:=by
   rw[Fm.shape_eq,Bool.and_eq_true,Bool.and_eq_true] at hs ⊢
   refine⟨⟨?_,List.all_eq_true.2 fun t ht=>((Tm.err_iff t).1 (a2 t ht)).1⟩,List.all_eq_true.2 fun y hy=> ?_⟩
   ·have:=hs.1.1
    unfold Fm.head at this ⊢
    simp only[Fm.kind_mk,Fm.terms_mk,Fm.args_mk,a1,b1] at this ⊢
    exact this
   ·obtain ⟨i,hi,rfl⟩:=List.getElem_of_mem hy
    have hi':i<(normFs f.args).1.length:=hi
    exact(b2 i (by omega) hi').2.1
  refine⟨rfl,hsh,?_,fun g hok=> ?_⟩
  ·have e1:=f.size_eq
   rw[Fm.size_eq]
   simp only[Fm.terms_mk,Fm.args_mk]
   have s1:=lsum_const (f:=Tm.size) (C:=4096) (nrmTs f.terms).1 fun t ht=>((Tm.err_iff t).1 (a2 t ht)).2
   have s2:=lsum_len Tm.size Tm.size_pos f.terms
   have s3:((normFs f.args).1.map Fm.size).sum≤4096*(f.args.map Fm.size).sum:=by
    have:∀(l m:List Fm),m.length=l.length→(∀(i:Nat) (h1:i<l.length) (h2:i<m.length),m[i].size≤4096*l[i].size)→(m.map Fm.size).sum≤4096*(l.map Fm.size).sum:=by
     intro l
     induction l with
     |nil=>intro m hm _;have:m=[]:=List.eq_nil_of_length_eq_zero hm;subst this;simp
     |cons x l ihl=>
      intro m hm hh
      match m,hm with
      |y::m,hm=>
       have q1:=ihl m (by simpa using hm) fun i h1 h2=>by have:=hh (i+1) (by simpa using h1) (by simpa using h2);simpa using this
       have q2:=hh 0 (by simp) (by simp)
       simp only[List.getElem_cons_zero] at q2
       simp only[List.map_cons,List.sum_cons];omega
    exact this f.args _ b1 fun i h1 h2=>(b2 i h1 h2).2.2.1
   rw[a1] at s1
   omega
  ·rw [Fm.okT_iff] at hok ⊢
   refine⟨fun t ht=>a3 g natT hok.1 t ht,fun y hy=> ?_⟩
   obtain⟨i,hi,rfl⟩:=List.getElem_of_mem hy
   have hi':i<(normFs f.args).1.length:=hi
   have hc:ctxF g (Fm.mk f.kind f.ty (nrmTs f.terms).1 (normFs f.args).1)=ctxF g f:=rfl
   rw[hc]
   exact(b2 i (by omega) hi').2.2.2 _ (hok.2 _ (List.getElem_mem (by omega)))
theorem lower_put{f:Fm}(s:Tm)(hs:f.shape=true)(h:timesF 0 f=0):f.lft 1 (-1)=f.put 0 s:=by
 refine Fm.re_congr f 0 fun p hp=> ?_
 have h1:=cntF_zero h p hp
 have h2:=tms_snd p hp
 refine re_congr p.1 0 fun q hq=> ?_
 have h3:=cnt_zero h1 q hq
 rw[liftG_eq,putG_eq]
 have h4:=vars_snd p.1 0 q hq
 by_cases h5:q.1-q.2≥1+p.2
 ·rw [if_pos h5,if_neg h3,if_pos (by omega)];rfl
 ·rw [if_neg h5,if_neg h3,if_neg (by omega)]
theorem lower_ok{f:Fm}{g:List Ty}{σ:Ty}(hσ:σ.err=0)(hs:f.shape=true)(h:timesF 0 f=0)(hok:f.okT (g++[σ])):(f.lft 1 (-1)).shape=true∧(f.lft 1 (-1)).size=f.size∧(f.lft 1 (-1)).okT g:=by
 have h1:=(Ty.err_iff σ).1 hσ
 obtain⟨d1,d2,_⟩:=dfl_facts σ h1.1 h1.2
 rw[lower_put (dfl σ) hs h]
 refine⟨fput_shape (by omega) d2 hs,?_,?_⟩
 ·have:=fput_size 0 (dfl σ) d2 f hs 0
  have e:cntF 0 (f.tms 0)=0:=h
  show(f.re (fun b t=>t.re (putG (0+b) (dfl σ)) 0) 0).size=f.size
  rw[this,e,Nat.zero_mul];rfl
 ·have h3:=fokT_put 0 (dfl σ) g σ d2 (d1 g) f [] 0 rfl hs (by simpa using hok)
  rw[List.append_nil] at h3
  exact h3
theorem freeR_ok{f:Fm}(hf:f.err=0)(h:(freeR f).2=0):(freeR f).1.shape=true∧(freeR f).1.size≤16777216∧timesF 0 (freeR f).1=0∧(∀g,f.okT g→(freeR f).1.okT g)∧(freeR f).1.kind=f.kind:=by
 have s1:=(Fm.err_iff _).1 hf
 unfold freeR at h ⊢
 by_cases h1:timesF 0 f=0
 ·rw [if_pos h1];exact⟨s1.1,by simp only;omega,h1,fun g h=>h,rfl⟩
 rw[if_neg h1] at h ⊢
 by_cases h2:(normF f).2≠0
 ·rw [if_pos h2] at h;exact absurd h h2
 rw[if_neg h2] at h ⊢
 by_cases h3:timesF 0 (normF f).1≠0
 ·rw [if_pos h3] at h;cases h
 rw[if_neg h3]
 obtain⟨k,a,b,c⟩:=normF_ok f (Decidable.not_not.1 h2) s1.1
 exact⟨a,by simp only;omega,Decidable.not_not.1 h3,c,k⟩
theorem opnR_ok{r0 r1:Rs}(h0:RsOk r0)(h1:RsOk r1){k:Int}{c:Ck}(hc:c.ok):RuleOk c (opnR k r0 r1 c):=by
 unfold opnR
 split
 ·rename_i h;exact noRes_ok c h
 rename_i e0
 split
 ·exact noRes_ok c (by decide)
 rename_i e1
 split
 ·exact noRes_ok c (by decide)
 rename_i e2
 split
 ·rename_i h;exact noRes_ok c h
 rename_i e3
 split
 ·rename_i h;exact noRes_ok c h
 rename_i e4
 split
 ·exact noRes_ok c (by decide)
 intro _
 obtain⟨a1,a2,a3⟩:=h0.good hc (Decidable.not_not.1 e0)
 have s1:=(Fm.err_iff _).1 a1
 have hk:(r0 c).1.kind=kI k 15 7 5:=Decidable.not_not.1 e1
 have hk':4≤(r0 c).1.kind∧(r0 c).1.kind≤7:=by rw[hk,kI];split<;>omega
 obtain⟨x,e⟩:=qu_of s1.1 hk'
 have ex:x.err=0:=part_err a1 (by rw[e];simp[quF])
 rw[e] at a2
 have o1:=qu_okT hk' a2
 have hx:(r0 c).1.args.getD 0 noFm=x:=by rw[e];rfl
 have hr:=room_ok (Decidable.not_not.1 e2)
 have hte:=qu_err s1.1 hk'
 have hb:((c.below [(r0 c).1.ty]).with_ x).ok:=(hc.below (l:=[(r0 c).1.ty]) hr.1 (by simpa using hte)).with_ (by simpa [Ck.below] using hr.2) ex o1
 have hob:openB r1 c (r0 c).1=r1 ((c.below [(r0 c).1.ty]).with_ x):=by unfold openB;rw[hx]
 rw[hob] at e3 e4 ⊢
 obtain⟨b1,b2,b3⟩:=h1.good hb (Decidable.not_not.1 e3)
 obtain⟨f1,f2,f3,f4,_⟩:=freeR_ok b1 (Decidable.not_not.1 e4)
 obtain⟨l1,l2,l3⟩:=lower_ok hte f1 f3 (f4 _ b2)
 have hu:=UsesOk.out (n:=c.tys.length) (m:=1) (l:=(r1 ((c.below [(r0 c).1.ty]).with_ x)).2.1) (by simpa [Ck.below,Ck.with_] using b3)
 exact⟨l1,by simp only;omega,l3,.union a3.2 hu.2⟩
theorem zT_inf(g:List Ty):zT.inf g=(natT,0):=by simp[zT,Tm.inf,Tm.infs,rule]
theorem nil_inf(g:List Ty):nilM.inf g=(listT,0):=by simp[nilM,Tm.inf,Tm.infs,rule]
theorem kTyp_nat{c:Ck}{t:Tm}(h:kTyp c t 1=0):t.err=0∧t.inf c.tys=(natT,0):=by
 obtain⟨a,b,d,e⟩:=kTyp_inv h
 exact⟨a,by rw[b,nat_of d e]⟩
theorem kTyp_list{c:Ck}{t:Tm}(h:kTyp c t 2=0):t.err=0∧t.inf c.tys=(listT,0):=by
 obtain⟨a,b,d,e⟩:=kTyp_inv h
 exact⟨a,by rw[b,list_of d e]⟩
theorem nat_err:natT.err=0:=by decide
theorem list_err:listT.err=0:=by decide
theorem Ck.ok.one{c:Ck}(h:c.ok){s:Ty}(hs:s.err=0):∀x∈c.tys++[s],x.err=0:=fun x hx=>by
 rcases List.mem_append.1 hx with hx|hx
 ·exact h.all x hx
 ·simp only[List.mem_singleton] at hx;subst hx;exact hs
theorem indR_ok{r0 r1:Rs}(h0:RsOk r0)(h1:RsOk r1){f:Fm}{t:Tm}{c:Ck}(hc:c.ok):RuleOk c (indR f t r0 r1 c):=by
 unfold indR
 split
 ·rename_i h;exact noRes_ok c h
 rename_i e0
 split
 ·rename_i h;exact noRes_ok c h
 rename_i e1
 split
 ·rename_i h;exact noRes_ok c h
 rename_i e2
 split
 ·exact noRes_ok c (by decide)
 rename_i e3
 split
 ·rename_i h;exact noRes_ok c h
 intro he
 obtain⟨f1,f2⟩:=typedF_inv (hc.one nat_err) (Decidable.not_not.1 e0)
 obtain⟨t1,t2⟩:=kTyp_nat (Decidable.not_not.1 e1)
 obtain⟨p1,p2⟩:=putK_ok f2 t2 he
 have hr:=room_ok (Decidable.not_not.1 e3)
 have hb:((c.below [natT]).with_ f).ok:=(hc.below (l:=[natT]) hr.1 (by simp[nat_err])).with_ (by simpa [Ck.below] using hr.2) f1 f2
 have hu:=UsesOk.out (n:=c.tys.length) (m:=1) (l:=(partR r1 ((c.below [natT]).with_ f) (f.lft 1 1) (sT (vT 0))).1) (by simpa [Ck.below,Ck.with_] using partR_ok h1 hb (f.lft 1 1) (sT (vT 0)))
 refine⟨(err_small p1).1,(err_small p1).2,p2,.union (fun u hu=> ?_) hu.2⟩
 rcases mem_unionI.1 hu with h|h
 ·exact (freeT_ok t2).2 u h
 ·exact (partR_ok h0 hc f zT).2 u h
theorem listR_ok{r0 r1:Rs}(h0:RsOk r0)(h1:RsOk r1){f:Fm}{t:Tm}{c:Ck}(hc:c.ok):RuleOk c (listR f t r0 r1 c):=by
 unfold listR
 split
 ·rename_i h;exact noRes_ok c h
 rename_i e0
 split
 ·rename_i h;exact noRes_ok c h
 rename_i e1
 split
 ·rename_i h;exact noRes_ok c h
 rename_i e2
 split
 ·exact noRes_ok c (by decide)
 rename_i e3
 split
 ·rename_i h;exact noRes_ok c h
 intro he
 obtain⟨f1,f2⟩:=typedF_inv (hc.one list_err) (Decidable.not_not.1 e0)
 obtain⟨t1,t2⟩:=kTyp_list (Decidable.not_not.1 e1)
 obtain⟨p1,p2⟩:=putK_ok f2 t2 he
 have hr:=room_ok (Decidable.not_not.1 e3)
 have hl:=lft_okTs (g:=c.tys) (h:=[listT]) [natT] ((Fm.err_iff f).1 f1).1 f2
 have hb:((c.below [natT,listT]).with_ (f.lft 1 1)).ok:=(hc.below (l:=[natT,listT]) hr.1 (by simp[nat_err,list_err])).with_ (by simpa [Ck.below] using hr.2) (lft_err f1 (by omega)) (by simpa [Ck.below] using hl)
 have hu:=UsesOk.out (n:=c.tys.length) (m:=2) (l:=(partR r1 ((c.below [natT,listT]).with_ (f.lft 1 1)) (f.lft 1 2) consM).1) (by simpa [Ck.below,Ck.with_] using partR_ok h1 hb (f.lft 1 2) consM)
 refine⟨(err_small p1).1,(err_small p1).2,p2,.union (fun u hu=> ?_) hu.2⟩
 rcases mem_unionI.1 hu with h|h
 ·exact (freeT_ok t2).2 u h
 ·exact (partR_ok h0 hc f nilM).2 u h
theorem reflR_ok{t:Tm}{c:Ck}(hc:c.ok):RuleOk c (reflR t c):=by
 intro he
 obtain⟨t1,t2⟩:=kTyp_nat he
 have s:=(Tm.err_iff t).1 t1
 exact⟨eqF_shape s.1 s.1,by show(eqF t t).size≤_;rw[eqF_size];omega,eq_okT.2 ⟨t2,t2⟩,.nil _⟩
theorem substR_ok{r0 r1:Rs}(h0:RsOk r0)(h1:RsOk r1){f:Fm}{c:Ck}(hc:c.ok):RuleOk c (substR f r0 r1 c):=by
 unfold substR
 split
 ·rename_i h;exact noRes_ok c h
 rename_i e0
 split
 ·rename_i h;exact noRes_ok c h
 rename_i e1
 split
 ·exact noRes_ok c (by decide)
 rename_i e2
 split
 ·rename_i h;exact noRes_ok c h
 intro he
 obtain⟨f1,f2⟩:=typedF_inv (hc.one nat_err) (Decidable.not_not.1 e0)
 obtain⟨a1,a2,a3⟩:=h0.good hc (Decidable.not_not.1 e1)
 obtain⟨x,y,e⟩:=eq_of ((Fm.err_iff _).1 a1).1 (Decidable.not_not.1 e2)
 rw[e] at a2
 have hy:(r0 c).1.terms.getD 1 noTm=y:=by rw[e];rfl
 rw[hy] at he ⊢
 obtain⟨p1,p2⟩:=putK_ok f2 (eq_okT.1 a2).2 he
 exact⟨(err_small p1).1,(err_small p1).2,p2,partR_ok h1 hc _ _⟩
theorem appV_inf(g:List Ty)(s u:Ty):appV.inf (g++[funT s u]++[s])=(u,0):=by
 refine apt_inf (a:=s) ?_ ?_
 ·rw [inf_var' _ _ (by omega),if_neg (by simp;omega),look_left (by simp) (by simp),look_right (by simp)];rfl
 ·rw [inf_var' _ _ (by omega),if_neg (by simp;omega),look_right (by simp)];rfl
theorem choiceR_ok{r0:Rs}(h0:RsOk r0){c:Ck}(hc:c.ok):RuleOk c (choiceR r0 c):=by
 unfold choiceR
 split
 ·rename_i h;exact noRes_ok c h
 rename_i e0
 split
 ·exact noRes_ok c (by decide)
 rename_i e1
 split
 ·exact noRes_ok c (by decide)
 rename_i e2
 intro he
 obtain⟨a1,a2,a3⟩:=h0.good hc (Decidable.not_not.1 e0)
 rw[not_or,Decidable.not_not,Decidable.not_not] at e1
 have s1:=(Fm.err_iff _).1 a1
 obtain⟨x,e⟩:=qu_of s1.1 (by omega)
 have ex:x.err=0:=part_err a1 (by rw[e];simp[quF])
 have hx:(r0 c).1.args.getD 0 noFm=x:=by rw[e];rfl
 have hte:=qu_err s1.1 (by omega)
 rw[hx] at e1
 have s2:=(Fm.err_iff _).1 ex
 obtain⟨y,e'⟩:=qu_of s2.1 (by omega)
 have hte':=qu_err s2.1 (by omega)
 have ey:y.err=0:=part_err ex (by rw[e'];simp[quF])
 have hy:x.args.getD 0 noFm=y:=by rw[e'];rfl
 rw[e] at a2
 have o1:=qu_okT (by omega) a2
 rw[e'] at o1
 have o2:=qu_okT (by omega) o1
 have hcf:chF (r0 c).1=funT (r0 c).1.ty x.ty:=by unfold chF;rw[hx]
 have hcb:chB (r0 c).1=putK (y.lft 2 1) appV:=by unfold chB;rw[hx,hy]
 rw[hcf] at e2 ⊢
 rw[hcb] at he ⊢
 have hl:=lft_okTs (g:=c.tys) (h:=[(r0 c).1.ty,x.ty]) [funT (r0 c).1.ty x.ty] ((Fm.err_iff y).1 ey).1 (by simpa using o2)
 have hl':(y.lft 2 1).okT (c.tys++[funT (r0 c).1.ty x.ty]++[(r0 c).1.ty]++[x.ty]):=by simpa using hl
 obtain⟨p1,p2⟩:=putK_ok hl' (appV_inf _ _ _) he
 have s3:=(Fm.err_iff _).1 p1
 refine⟨qu_shape_iff (by omega) (Decidable.not_not.1 e2) (qu_shape_iff (by omega) hte s3.1),by simp only[quF_size];omega,fokT_qu (by omega) (fokT_qu (by omega) p2),a3⟩
def PfOk(p:Pf):Prop:=p.shape=true∧p.small=true
theorem rs_at{l:List Pf}{i:Nat}(hi:i<l.length):(l.map infP).getD i (fun _=>noRes 0)=infP l[i]:=by
 rw[getD_at (by simpa using hi),List.getElem_map]
theorem pshape_parts{p:Pf}(h:p.shape=true):p.head=true∧(∀t∈p.terms,t.shape=true)∧(∀f∈p.forms,f.shape=true)∧∀x∈p.args,x.shape=true:=by
 rw[p.shape_eq] at h
 simp only[Bool.and_eq_true,List.all_eq_true] at h
 exact⟨h.1.1.1,h.1.1.2,h.1.2,h.2⟩
theorem ok_err0{t:Ty}(h:t.ok=true):t.err=0:=by
 simp only[Ty.ok,Bool.and_eq_true,decide_eq_true_eq] at h
 exact(Ty.err_iff t).2 h
theorem phead{p:Pf}(h:p.head=true):∃nd,ndP p.kind=some nd∧p.terms.length=nd.terms∧p.forms.length=nd.forms∧p.args.length=nd.args∧0≤p.index∧(nd.typ=true→p.ty.err=0)∧1≤p.kind∧p.kind≤20:=by
 unfold Pf.head at h
 cases hn:ndP p.kind with
 |none=>rw[hn] at h;cases h
 |some nd=>
  rw[hn] at h
  have hk:1≤p.kind∧p.kind≤20:=by
   refine Decidable.byContradiction fun hc=> ?_
   have:ndP p.kind=none:=by
    unfold ndP
    repeat rw[if_neg (by omega)]
   rw[this] at hn;cases hn
  simp only[Bool.and_eq_true,decide_eq_true_eq,beq_iff_eq] at h
  refine⟨nd,rfl,by omega,by omega,by omega,by omega,fun ht=> ?_,hk⟩
  simp only[ht,if_true] at h
  exact ok_err0 h.2
theorem infP_ok(p:Pf):p.shape=true→RsOk (infP p):=by
 induction p using Pf.ind with
 |h p ih=>
  intro hs c hc
  rw[infP_eq]
  refine finR_ok ?_
  obtain⟨h1,h2,h3,h4⟩:=pshape_parts hs
  obtain⟨nd,n1,n2,n3,n4,n5,n6,n7⟩:=phead h1
  have hrs:∀i,i<p.args.length→RsOk ((p.args.map infP).getD i fun _=>noRes 0):=fun i hi=>by
   rw[rs_at hi];exact ih _ (List.getElem_mem hi) (h4 _ (List.getElem_mem hi))
  have hk:p.kind=1∨p.kind=2∨p.kind=3∨p.kind=4∨p.kind=5∨p.kind=6∨p.kind=7∨p.kind=8∨p.kind=9∨p.kind=10∨p.kind=11∨p.kind=12∨p.kind=13∨p.kind=14∨p.kind=15∨p.kind=16∨p.kind=17∨p.kind=18∨p.kind=19∨p.kind=20:=by omega
  unfold ruleR
  rcases hk with e|e|e|e|e|e|e|e|e|e|e|e|e|e|e|e|e|e|e|e<;>rw[e] at n1 ⊢<;>simp only[ndP] at n1<;>(try(simp at n1))<;>(try subst n1)<;>simp only[reduceIte,Int.reduceEq,or_false,false_or,or_true,true_or]<;>simp only at n4 n6
  ·exact hypR_ok hc n5
  ·exact lemR_ok hc n5
  ·exact andR_ok (hrs 0 (by omega)) (hrs 1 (by omega)) hc
  ·exact prjR_ok (hrs 0 (by omega)) hc (by decide)
  ·exact prjR_ok (hrs 0 (by omega)) hc (by decide)
  ·exact impiR_ok (hrs 0 (by omega)) hc
  ·exact impeR_ok (hrs 0 (by omega)) (hrs 1 (by omega)) hc
  ·exact allR_ok (hrs 0 (by omega)) (n6 trivial) hc
  ·exact atR_ok (hrs 0 (by omega)) hc
  ·exact exR_ok (hrs 0 (by omega)) hc
  ·exact opnR_ok (hrs 0 (by omega)) (hrs 1 (by omega)) hc
  ·exact allR_ok (hrs 0 (by omega)) (n6 trivial) hc
  ·exact atR_ok (hrs 0 (by omega)) hc
  ·exact exR_ok (hrs 0 (by omega)) hc
  ·exact opnR_ok (hrs 0 (by omega)) (hrs 1 (by omega)) hc
  ·exact indR_ok (hrs 0 (by omega)) (hrs 1 (by omega)) hc
  ·exact listR_ok (hrs 0 (by omega)) (hrs 1 (by omega)) hc
  ·exact reflR_ok hc
  ·exact substR_ok (hrs 0 (by omega)) (hrs 1 (by omega)) hc
  ·exact choiceR_ok (hrs 0 (by omega)) hc
theorem ln1{α:Type}{l:List α}(h:l.length=1):∃a,l=[a]:=by
 match l,h with
 |[a],_=>exact⟨a,rfl⟩
theorem ln2{α:Type}{l:List α}(h:l.length=2):∃a b,l=[a,b]:=by
 match l,h with
 |[a,b],_=>exact⟨a,b,rfl⟩
theorem ln0{α:Type}{l:List α}(h:l.length=0):l=[]:=List.eq_nil_of_length_eq_zero h
theorem ruleR_ok{p:Pf}(hs:p.shape=true){c:Ck}(hc:c.ok):RuleOk c (ruleR p.kind p.index p.ty p.terms p.forms (p.args.map infP) c):=by
 obtain⟨h1,h2,h3,h4⟩:=pshape_parts hs
 obtain⟨nd,n1,n2,n3,n4,n5,n6,n7⟩:=phead h1
 have hrs:∀i,i<p.args.length→RsOk ((p.args.map infP).getD i fun _=>noRes 0):=fun i hi=>by
  rw[rs_at hi];exact infP_ok _ (h4 _ (List.getElem_mem hi))
 have hk:p.kind=1∨p.kind=2∨p.kind=3∨p.kind=4∨p.kind=5∨p.kind=6∨p.kind=7∨p.kind=8∨p.kind=9∨p.kind=10∨p.kind=11∨p.kind=12∨p.kind=13∨p.kind=14∨p.kind=15∨p.kind=16∨p.kind=17∨p.kind=18∨p.kind=19∨p.kind=20:=by omega
 unfold ruleR
 rcases hk with e|e|e|e|e|e|e|e|e|e|e|e|e|e|e|e|e|e|e|e<;>rw[e] at n1 ⊢<;>simp only[ndP] at n1<;>(try(simp at n1))<;>(try subst n1)<;>simp only[reduceIte,Int.reduceEq,or_false,false_or,or_true,true_or]<;>simp only at n4 n6
 ·exact hypR_ok hc n5
 ·exact lemR_ok hc n5
 ·exact andR_ok (hrs 0 (by omega)) (hrs 1 (by omega)) hc
 ·exact prjR_ok (hrs 0 (by omega)) hc (by decide)
 ·exact prjR_ok (hrs 0 (by omega)) hc (by decide)
 ·exact impiR_ok (hrs 0 (by omega)) hc
 ·exact impeR_ok (hrs 0 (by omega)) (hrs 1 (by omega)) hc
 ·exact allR_ok (hrs 0 (by omega)) (n6 trivial) hc
 ·exact atR_ok (hrs 0 (by omega)) hc
 ·exact exR_ok (hrs 0 (by omega)) hc
 ·exact opnR_ok (hrs 0 (by omega)) (hrs 1 (by omega)) hc
 ·exact allR_ok (hrs 0 (by omega)) (n6 trivial) hc
 ·exact atR_ok (hrs 0 (by omega)) hc
 ·exact exR_ok (hrs 0 (by omega)) hc
 ·exact opnR_ok (hrs 0 (by omega)) (hrs 1 (by omega)) hc
 ·exact indR_ok (hrs 0 (by omega)) (hrs 1 (by omega)) hc
 ·exact listR_ok (hrs 0 (by omega)) (hrs 1 (by omega)) hc
 ·exact reflR_ok hc
 ·exact substR_ok (hrs 0 (by omega)) (hrs 1 (by omega)) hc
 ·exact choiceR_ok (hrs 0 (by omega)) hc
theorem arg0_full(f:Fm):(f.args.getD 0 noFm).full≤f.full+2:=by
 cases h:f.args with
 |nil=>exact Nat.le_trans (by decide:noFm.full≤2) (by omega)
 |cons x l=>
  have:=lsum_mem Fm.full (l:=f.args) (t:=x) (by rw[h];simp)
  have:=f.full_eq
  simp only[List.getD_cons_zero]
  omega
def seqE(lems:List Fm)(tys:List Ty)(hyps:List Fm):Int:=
 if lems.length>32 then 3 else if firstI (typedFC []) lems≠0 then firstI (typedFC []) lems else if ctxErr tys≠0 then ctxErr tys
 else if hyps.length>16 then 3 else firstI (typedFC tys) hyps
theorem seqE_ok{lems:List Fm}{tys:List Ty}{hyps:List Fm}(h:seqE lems tys hyps=0):(Ck.mk lems tys hyps).ok:=by
 unfold seqE at h
 by_cases h1:lems.length>32
 ·rw [if_pos h1] at h;cases h
 rw[if_neg h1] at h
 by_cases h2:firstI (typedFC []) lems≠0
 ·rw [if_pos h2] at h;exact absurd h h2
 rw[if_neg h2] at h
 by_cases h3:ctxErr tys≠0
 ·rw [if_pos h3] at h;exact absurd h h3
 rw[if_neg h3] at h
 by_cases h4:hyps.length>16
 ·rw [if_pos h4] at h;cases h
 rw[if_neg h4] at h
 exact⟨Decidable.not_not.1 h3,by simp only;omega,by simp only;omega,fun f hf=>typedFC_inv (firstI_zero h f hf),fun f hf=>typedFC_inv (firstI_zero (Decidable.not_not.1 h2) f hf)⟩
theorem seqE_of{c:Ck}(h:c.ok):seqE c.lems c.tys c.hyps=0:=by
 unfold seqE
 rw[if_neg (by have:=h.nl;omega),if_neg,if_neg (by simp[h.ctx]),if_neg (by have:=h.nh;omega)]
 ·exact firstI_all fun f hf=>okT_typedFC (h.hyps f hf).2 (h.hyps f hf).1 h.ctx
 ·rw [firstI_all fun f hf=>okT_typedFC (h.lems f hf).2 (h.lems f hf).1 rfl];simp
def InferR(lems:List Fm)(tys:List Ty)(hyps:List Fm)(p:Pf):Res:=
 if seqE lems tys hyps≠0 then noRes (seqE lems tys hyps) else if p.err≠0 then noRes p.err else infP p ⟨lems,tys,hyps⟩
def AcceptsR(lems:List Fm)(tys:List Ty)(hyps:List Fm)(p:Pf)(f:Fm):Int:=
 if(InferR lems tys hyps p).2.2≠0 then(InferR lems tys hyps p).2.2 else if typedFC tys f≠0 then typedFC tys f else mtchF (InferR lems tys hyps p).1 f
def fvK(k:Int):Int:=if k=16∨k=17∨k=19 then 1 else 0
def vaK(k:Int):Int:=if k=17 then 2 else if k=8∨k=12∨k=11∨k=15∨k=16 then 1 else 0
def hyK(k:Int):Int:=if k=6∨k=11∨k=15∨k=16∨k=17 then 1 else 0
def ruC(k:Int):List V:=match ndP k with
 |some n=>[.bool n.index,.bool n.typ,.i n.terms,.i n.forms,.i n.args,.i (fvK k),.i (vaK k),.i (hyK k)]
 |none=>[.bool false,.bool false,.i 0,.i 0,.i 0,.i 0,.i 0,.i 0]
abbrev Tl:=Nat×Bool
def tlT:List Tm→Tl→Bool×Tl
 |[],s=>(true,s)
 |t::l,s=>if t.err=2 then(false,(s.1+t.num.toNat,s.2||t.err==4)) else tlT l (s.1+t.num.toNat,s.2||t.err==4)
def tlF:List Fm→Tl→Bool×Tl
 |[],s=>(true,s)
 |t::l,s=>if t.err=2 then(false,(s.1+t.num.toNat,s.2||t.err==4)) else tlF l (s.1+t.num.toNat,s.2||t.err==4)
def Pf.hdA(p:Pf):Bool:=match ndP p.kind with
 |none=>false
 |some n=>p.terms.length==n.terms&&p.forms.length==n.forms&&p.args.length==n.args&&decide (0≤p.index)&&(n.index||p.index==0)
def Pf.hdT(p:Pf):Bool:=match ndP p.kind with
 |none=>false
 |some n=>if n.typ=true then p.ty.ok else p.ty.isNo
mutual
def tlP:Pf→Tl→Bool×Tl
 | .mk k i h ts fs zs,s=>
   if Pf.hdA (.mk k i h ts fs zs)=false then(false,s) else if Pf.hdT (.mk k i h ts fs zs)=false then(false,(s.1+1,s.2))
   else if(tlT ts (s.1+1,s.2)).1=false then tlT ts (s.1+1,s.2)
   else if(tlF fs (tlT ts (s.1+1,s.2)).2).1=false then tlF fs (tlT ts (s.1+1,s.2)).2
   else tlPs zs (tlF fs (tlT ts (s.1+1,s.2)).2).2
def tlPs:List Pf→Tl→Bool×Tl
 |[],s=>(true,s)
 |p::l,s=>if(tlP p s).1=false then tlP p s else tlPs l (tlP p s).2
end
theorem tlP_eq(p:Pf)(s:Tl):tlP p s=if p.hdA=false then(false,s) else if p.hdT=false then(false,(s.1+1,s.2))
 else if(tlT p.terms (s.1+1,s.2)).1=false then tlT p.terms (s.1+1,s.2)
 else if(tlF p.forms (tlT p.terms (s.1+1,s.2)).2).1=false then tlF p.forms (tlT p.terms (s.1+1,s.2)).2
 else tlPs p.args (tlF p.forms (tlT p.terms (s.1+1,s.2)).2).2:=by
 cases p;simp only[tlP];rfl
theorem tlT_go:∀(l m:List Tm) (s:Tl),(tlT l s).1=true→tlT (l++m) s=tlT m (tlT l s).2
 |[],m,s,_=>rfl
 |t::l,m,s,h=>by
  simp only[tlT,List.cons_append] at h ⊢
  by_cases e:t.err=2
  ·rw [if_pos e] at h;cases h
  ·rw [if_neg e] at h ⊢;rw[if_neg e];exact tlT_go l m _ h
theorem tlF_go:∀(l m:List Fm) (s:Tl),(tlF l s).1=true→tlF (l++m) s=tlF m (tlF l s).2
 |[],m,s,_=>rfl
 |t::l,m,s,h=>by
  simp only[tlF,List.cons_append] at h ⊢
  by_cases e:t.err=2
  ·rw [if_pos e] at h;cases h
  ·rw [if_neg e] at h ⊢;rw[if_neg e];exact tlF_go l m _ h
theorem tlPs_go:∀(l m:List Pf) (s:Tl),(tlPs l s).1=true→tlPs (l++m) s=tlPs m (tlPs l s).2
 |[],m,s,_=>rfl
 |t::l,m,s,h=>by
  simp only[tlPs,List.cons_append] at h ⊢
  by_cases e:(tlP t s).1=false
  ·rw [if_pos e] at h;rw[e] at h;cases h
  ·rw [if_neg e] at h ⊢;rw[if_neg e];exact tlPs_go l m _ h
theorem tk_snoc{α:Type}{l:List α}{m:Nat}(hm:m<l.length):l=l.take m++l[m]::l.drop (m+1):=by
 rw[←List.drop_eq_getElem_cons hm,List.take_append_drop]
theorem tlT_take{l:List Tm}{m:Nat}{s:Tl}(hm:m<l.length)(h:(tlT (l.take m) s).1=true):tlT (l.take (m+1)) s=tlT [l[m]] (tlT (l.take m) s).2:=by
 rw[List.take_succ_eq_append_getElem hm,tlT_go _ _ _ h]
theorem tlT_stop{l:List Tm}{m:Nat}{s:Tl}(hm:m<l.length)(h:(tlT (l.take m) s).1=true)(he:l[m].err=2):tlT l s=(false,((tlT (l.take m) s).2.1+l[m].num.toNat,(tlT (l.take m) s).2.2||l[m].err==4)):=by
 have e:tlT l s=tlT (l.take m++l[m]::l.drop (m+1)) s:=by rw[←tk_snoc hm]
 rw[e,tlT_go _ _ _ h,tlT,if_pos he]
theorem tlF_take{l:List Fm}{m:Nat}{s:Tl}(hm:m<l.length)(h:(tlF (l.take m) s).1=true):tlF (l.take (m+1)) s=tlF [l[m]] (tlF (l.take m) s).2:=by
 rw[List.take_succ_eq_append_getElem hm,tlF_go _ _ _ h]
theorem tlF_stop{l:List Fm}{m:Nat}{s:Tl}(hm:m<l.length)(h:(tlF (l.take m) s).1=true)(he:l[m].err=2):tlF l s=(false,((tlF (l.take m) s).2.1+l[m].num.toNat,(tlF (l.take m) s).2.2||l[m].err==4)):=by
 have e:tlF l s=tlF (l.take m++l[m]::l.drop (m+1)) s:=by rw[←tk_snoc hm]
 rw[e,tlF_go _ _ _ h,tlF,if_pos he]
theorem tlPs_take{l:List Pf}{m:Nat}{s:Tl}(hm:m<l.length)(h:(tlPs (l.take m) s).1=true):tlPs (l.take (m+1)) s=tlPs [l[m]] (tlPs (l.take m) s).2:=by
 rw[List.take_succ_eq_append_getElem hm,tlPs_go _ _ _ h]
theorem tlPs_one(p:Pf)(s:Tl):tlPs [p] s=tlP p s:=by
 simp only[tlPs]
 cases h:(tlP p s).1 with
 |false=>simp
 |true=>simp only[Bool.true_eq_false,if_false];rw[←h]
theorem tlPs_stop{l:List Pf}{m:Nat}{s:Tl}(hm:m<l.length)(h:(tlPs (l.take m) s).1=true)(he:(tlP l[m] (tlPs (l.take m) s).2).1=false):tlPs l s=tlP l[m] (tlPs (l.take m) s).2:=by
 have e:tlPs l s=tlPs (l.take m++l[m]::l.drop (m+1)) s:=by rw[←tk_snoc hm]
 rw[e,tlPs_go _ _ _ h,tlPs,if_pos he]
theorem terr_cases(t:Tm):(t.err=0∧t.shape=true∧t.size≤4096∧t.num=t.size)∨(t.err=2∧t.shape=false∧t.num=0)∨(t.err=4∧t.shape=true∧¬t.size≤4096∧t.num=0):=by
 unfold Tm.num Tm.err
 cases h:t.shape with
 |false=>simp
 |true=>
  by_cases h2:t.size>4096
  ·simp [h2]
  ·simp [h2];omega
theorem ferr_cases(t:Fm):(t.err=0∧t.shape=true∧t.size≤4096∧t.num=t.size)∨(t.err=2∧t.shape=false∧t.num=0)∨(t.err=4∧t.shape=true∧¬t.size≤4096∧t.num=0):=by
 unfold Fm.num Fm.err
 cases h:t.shape with
 |false=>simp
 |true=>
  by_cases h2:t.size>4096
  ·simp [h2]
  ·simp [h2];omega
theorem tlT_ok:∀(l:List Tm) (s:Tl),(tlT l s).1=l.all Tm.shape∧(tlT l s).2.1≤s.1+(l.map Tm.size).sum∧
 (l.all Tm.shape=true→(tlT l s).2.2=(s.2|| !(l.all fun t=>decide (t.size≤4096)))∧((l.all fun t=>decide (t.size≤4096))=true→(tlT l s).2.1=s.1+(l.map Tm.size).sum))
 |[],s=>by simp[tlT]
 |t::l,s=>by
  have ih:=tlT_ok l (s.1+t.num.toNat,s.2||t.err==4)
  simp only[tlT,List.all_cons,List.map_cons,List.sum_cons]
  rcases terr_cases t with⟨h1,h2,h3,h4⟩|⟨h1,h2,h3⟩|⟨h1,h2,h3,h4⟩
  ·rw [if_neg (by omega)]
   simp only[h1,h2,h3,h4,decide_true,Bool.true_and] at ih ⊢
   simp only[Int.toNat_natCast] at ih ⊢
   refine⟨ih.1,by omega,fun h=>⟨?_,fun h'=> ?_⟩⟩
   ·rw [(ih.2.2 h).1];simp
   ·rw [(ih.2.2 h).2 h'];omega
  ·rw [if_pos h1]
   simp[h2,h3]
  ·rw [if_neg (by omega)]
   simp only[h1,h2,h3,h4,decide_false,Bool.true_and,Bool.false_and] at ih ⊢
   refine⟨ih.1,by have:=ih.2.1;simp only[Int.toNat_zero,Nat.add_zero] at this;omega,fun h=>⟨?_,fun h'=>by cases h'⟩⟩
   rw[(ih.2.2 h).1];simp
theorem tlF_ok:∀(l:List Fm) (s:Tl),(tlF l s).1=l.all Fm.shape∧(tlF l s).2.1≤s.1+(l.map Fm.size).sum∧
 (l.all Fm.shape=true→(tlF l s).2.2=(s.2|| !(l.all fun t=>decide (t.size≤4096)))∧((l.all fun t=>decide (t.size≤4096))=true→(tlF l s).2.1=s.1+(l.map Fm.size).sum))
 |[],s=>by simp[tlF]
 |t::l,s=>by
  have ih:=tlF_ok l (s.1+t.num.toNat,s.2||t.err==4)
  simp only[tlF,List.all_cons,List.map_cons,List.sum_cons]
  rcases ferr_cases t with⟨h1,h2,h3,h4⟩|⟨h1,h2,h3⟩|⟨h1,h2,h3,h4⟩
  ·rw [if_neg (by omega)]
   simp only[h1,h2,h3,h4,decide_true,Bool.true_and] at ih ⊢
   simp only[Int.toNat_natCast] at ih ⊢
   refine⟨ih.1,by omega,fun h=>⟨?_,fun h'=> ?_⟩⟩
   ·rw [(ih.2.2 h).1];simp
   ·rw [(ih.2.2 h).2 h'];omega
  ·rw [if_pos h1]
   simp[h2,h3]
  ·rw [if_neg (by omega)]
   simp only[h1,h2,h3,h4,decide_false,Bool.true_and,Bool.false_and] at ih ⊢
   refine⟨ih.1,by have:=ih.2.1;simp only[Int.toNat_zero,Nat.add_zero] at this;omega,fun h=>⟨?_,fun h'=>by cases h'⟩⟩
   rw[(ih.2.2 h).1];simp
theorem head_split(p:Pf):p.head=(p.hdA&&p.hdT):=by
 unfold Pf.head Pf.hdA Pf.hdT
 cases ndP p.kind with
 |none=>rfl
 |some n=>simp[Bool.and_assoc]
theorem tlPs_ok(l:List Pf)(ih:∀p∈l,∀s:Tl,(tlP p s).1=p.shape∧(tlP p s).2.1≤s.1+p.size∧(p.shape=true→(tlP p s).2.2=(s.2|| !p.small)∧(p.small=true→(tlP p s).2.1=s.1+p.size))):
 ∀s:Tl,(tlPs l s).1=l.all Pf.shape∧(tlPs l s).2.1≤s.1+(l.map Pf.size).sum∧(l.all Pf.shape=true→(tlPs l s).2.2=(s.2|| !(l.all Pf.small))∧(l.all Pf.small=true→(tlPs l s).2.1=s.1+(l.map Pf.size).sum)):=by
 induction l with
 |nil=>intro s;simp[tlPs]
 |cons p l ihl=>
  intro s
  obtain⟨a1,a2,a3⟩:=ih p (by simp) s
  have b:=ihl (fun q hq=>ih q (by simp[hq])) (tlP p s).2
  simp only[tlPs,List.all_cons,List.map_cons,List.sum_cons]
  cases hp:p.shape with
  |false=>
   rw[hp] at a1
   rw[if_pos a1]
   exact⟨by rw[a1];rfl,by omega,fun h=>by cases h⟩
  |true=>
   rw[hp] at a1
   rw[if_neg (by simp[a1])]
   obtain⟨c1,c2⟩:=a3 hp
   refine⟨by rw[b.1];simp,by omega,fun h=> ?_⟩
   simp only[Bool.true_and] at h
   obtain⟨d1,d2⟩:=b.2.2 h
   refine⟨by rw[d1,c1];cases s.2<;>cases p.small<;>simp,fun h'=> ?_⟩
   simp only[Bool.and_eq_true] at h'
   rw[d2 h'.2,c2 h'.1];omega
theorem tlP_ok(p:Pf):∀s:Tl,(tlP p s).1=p.shape∧(tlP p s).2.1≤s.1+p.size∧(p.shape=true→(tlP p s).2.2=(s.2|| !p.small)∧(p.small=true→(tlP p s).2.1=s.1+p.size)):=by
 induction p using Pf.ind with
 |h p ih=>
  intro s
  have hsz:=p.size_eq
  rw[tlP_eq,p.shape_eq,p.small_eq,head_split]
  by_cases h1:p.hdA=false
  ·rw [if_pos h1,h1];exact⟨rfl,by simp only;omega,fun h=>by simp at h⟩
  rw[if_neg h1]
  rw[Bool.not_eq_false] at h1
  by_cases h2:p.hdT=false
  ·rw [if_pos h2,h2];exact⟨by simp,by simp only;omega,fun h=>by simp at h⟩
  rw[if_neg h2]
  rw[Bool.not_eq_false] at h2
  rw[h1,h2]
  have t:=tlT_ok p.terms (s.1+1,s.2)
  have f:=tlF_ok p.forms (tlT p.terms (s.1+1,s.2)).2
  have a:=tlPs_ok p.args ih (tlF p.forms (tlT p.terms (s.1+1,s.2)).2).2
  by_cases h3:(tlT p.terms (s.1+1,s.2)).1=false
  ·rw [if_pos h3]
   have:p.terms.all Tm.shape=false:=by rw[←t.1];exact h3
   exact⟨by rw[h3,this];rfl,by omega,fun h=>by simp[this] at h⟩
  rw[if_neg h3]
  rw[Bool.not_eq_false,t.1] at h3
  by_cases h4:(tlF p.forms (tlT p.terms (s.1+1,s.2)).2).1=false
  ·rw [if_pos h4]
   have:p.forms.all Fm.shape=false:=by rw[←f.1];exact h4
   exact⟨by rw[h4,h3,this];rfl,by omega,fun h=>by simp[this] at h⟩
  rw[if_neg h4]
  rw[Bool.not_eq_false,f.1] at h4
  obtain⟨t1,t2⟩:=t.2.2 h3
  obtain⟨f1,f2⟩:=f.2.2 h4
  refine⟨by rw[a.1,h3,h4];rfl,by omega,fun h=> ?_⟩
  have h5:p.args.all Pf.shape=true:=by simpa [h3,h4] using h
  obtain⟨a1,a2⟩:=a.2.2 h5
  refine⟨?_,fun h'=> ?_⟩
  ·rw [a1,f1,t1]
   cases s.2<;>cases(p.terms.all fun t=>decide (t.size≤4096))<;>cases(p.forms.all fun t=>decide (t.size≤4096))<;>cases p.args.all Pf.small<;>rfl
  ·simp only[Bool.and_eq_true] at h'
   rw[a2 h'.2,f2 h'.1.2,t2 h'.1.1,hsz]
   omega
theorem pf_parts{p:Pf}(hs:p.shape=true):∃nd,ndP p.kind=some nd∧p.terms.length=nd.terms∧p.forms.length=nd.forms∧p.args.length=nd.args∧0≤p.index∧(nd.index=false→p.index=0)∧(nd.typ=true→p.ty.err=0)∧(nd.typ=false→p.ty= .mk 0 [])∧1≤p.kind∧p.kind≤20:=by
 have h:=(pshape_parts hs).1
 obtain⟨nd,n1,n2,n3,n4,n5,n6,n7⟩:=phead h
 refine⟨nd,n1,n2,n3,n4,n5,?_,n6,?_,n7⟩
 ·intro hi
  unfold Pf.head at h
  rw[n1] at h
  simp only[Bool.and_eq_true,decide_eq_true_eq,beq_iff_eq,Bool.or_eq_true] at h
  rcases h.1.2 with h2|h2
  ·rw [hi] at h2;cases h2
  ·exact h2
 ·intro hi
  unfold Pf.head at h
  rw[n1] at h
  simp only[Bool.and_eq_true,decide_eq_true_eq,beq_iff_eq,Bool.or_eq_true] at h
  have h2:=h.2
  rw[if_neg (by simp[hi])] at h2
  exact Ty.no_of h2
def Pf.num(p:Pf):Int:=if p.err=0 then p.size else 0
theorem put_v0{x:Tm}(hx:x.shape=true):(vT 0).re (putG 0 x) 0=x:=by
 rw[re_vT,putG_eq,if_pos (by omega)];exact lift_zero x hx 0
theorem put_l1{s:Tm}(hs:s.shape=true)(x:Tm):(s.re (liftG 0 1) 0).re (putG 0 x) 0=s:=by
 have h:=flower_lift (f:=eqF s s) (fun p hp=>by simp[eqF,Fm.tms,Fm.tmss] at hp;rw[hp];exact hs) 0 x
 have e:((eqF s s).lft 0 1).put 0 x=eqF ((s.re (liftG 0 1) 0).re (putG 0 x) 0) ((s.re (liftG 0 1) 0).re (putG 0 x) 0):=rfl
 rw[e] at h
 have:=congrArg Fm.terms h
 simp[eqF] at this
 exact this
theorem mtchR_refl{t:Tm}(h:t.err=0)(k:Int):mtchR t t k=0:=by
 unfold mtchR;rw[if_neg (by simp[h]),if_neg (by simp[h]),if_pos rfl]
theorem mtTs_refl:∀(l:List Tm),(∀t∈l,t.err=0)→mtTs l l=0:=fun l h=>mtTs_none l l fun j h1 _=>mtchR_refl (h _ (List.getElem_mem h1)) 1000
theorem mtF_refl(f:Fm):f.err=0→mtF f f=0:=by
 induction f using Fm.ind with
 |h f ih=>
  intro he
  rw[mtF_eq,if_pos ⟨rfl,rfl⟩,mtTs_refl f.terms (fun t ht=>term_err he ht),if_neg (by simp)]
  exact mtFs_none f.args f.args fun j h1 _=>ih _ (List.getElem_mem h1) (part_err he (List.getElem_mem h1))
theorem mtchF_refl{f:Fm}(he:f.err=0):mtchF f f=0:=by
 unfold mtchF;rw[if_neg (by simp[he]),if_neg (by simp[he])];exact mtF_refl f he
theorem hyp_inf{c:Ck}(hc:c.ok){i:Nat}(hi:i<c.hyps.length):infP (.mk 1 i (.mk 0 []) [] [] []) c=(c.hyps.getD (c.hyps.length-1-i) noFm,[],0):=by
 rw[infP_eq]
 have e:ruleR (Pf.mk 1 i (.mk 0 []) [] [] []).kind (Pf.mk 1 i (.mk 0 []) [] [] []).index (Pf.mk 1 i (.mk 0 []) [] [] []).ty (Pf.mk 1 i (.mk 0 []) [] [] []).terms (Pf.mk 1 i (.mk 0 []) [] [] []).forms ((Pf.mk 1 i (.mk 0 []) [] [] []).args.map infP) c=hypR c i:=rfl
 rw[e]
 unfold hypR
 rw[if_neg (by omega),Int.toNat_natCast]
 have hlt:c.hyps.length-1-i<c.hyps.length:=by omega
 have he:=(hc.hyps _ (List.getElem_mem hlt)).1
 unfold finR
 rw[getD_at hlt]
 rw[if_neg (by simp),if_neg (by simp[he])]
 simp only
 split<;>rfl
theorem refl_inf{c:Ck}{s:Tm}(hk:kTyp c s 1=0)(he:(eqF s s).err=0):infP (reflP s) c=(eqF s s,[],0):=by
 rw[infP_eq]
 have e:ruleR (reflP s).kind (reflP s).index (reflP s).ty (reflP s).terms (reflP s).forms ((reflP s).args.map infP) c=reflR s c:=rfl
 rw[e]
 unfold reflR finR
 rw[hk,if_neg (by simp),if_neg (by simp[he])]
 simp only
 split<;>rfl
def substP(f:Fm)(p q:Pf):Pf:= .mk 19 0 (.mk 0 []) [] [f] [p,q]
theorem subst_inf{c:Ck}{f x:Fm}{a b:Tm}{p q:Pf}{u w:List Int}(ht:typedF (c.tys++[natT]) f=0)(hp:infP p c=(eqF a b,u,0))(hq:infP q c=(x,w,0))
 (h1:putFErr f 0 a=0) (h2:putFErr f 0 b=0) (h3:(f.put 0 b).err=0):
 infP (substP f p q) c=if mtchF (f.put 0 a) x≠0 then noRes (mtchF (f.put 0 a) x) else(f.put 0 b,if contF (f.put 0 b)=true then w else [],0):=by
 rw[infP_eq]
 have e:ruleR (substP f p q).kind (substP f p q).index (substP f p q).ty (substP f p q).terms (substP f p q).forms ((substP f p q).args.map infP) c=substR f (infP p) (infP q) c:=rfl
 rw[e]
 unfold substR
 rw[if_neg (by simp[ht]),hp]
 simp only
 rw[if_neg (by simp),if_neg (by simp[eqF])]
 have ea:(eqF a b).terms.getD 0 noTm=a:=rfl
 have eb:(eqF a b).terms.getD 1 noTm=b:=rfl
 have ka:putK f a=(f.put 0 a,0):=by unfold putK;rw[if_pos h1,h1]
 have kb:putK f b=(f.put 0 b,0):=by unfold putK;rw[if_pos h2,h2]
 have hpart:partR (infP q) c f a=(w,mtchF (f.put 0 a) x):=by
  unfold partR
  rw[hq,ka]
  simp
 rw[ea,eb,hpart,kb]
 by_cases hm:mtchF (f.put 0 a) x≠0
 ·rw [if_pos hm,if_pos hm]
  unfold finR
  rw[if_pos (show(noRes (mtchF (f.put 0 a) x)).2.2≠0 from hm)]
  rfl
 ·rw [if_neg hm,if_neg hm]
  unfold finR
  rw[if_neg (by simp),if_neg (by simp[h3])]
theorem kTyp_of{c:Ck}(hc:c.ok){s:Tm}(he:s.err=0)(hi:s.inf c.tys=(natT,0)):kTyp c s 1=0:=by
 have e:typeOf c.tys s=(natT,0):=by
  unfold typeOf typed
  rw[if_neg (by simp[hc.ctx]),if_neg (by simp[he]),hi]
 unfold kTyp
 rw[e];rfl
structure NumOk (g:List Ty) (s:Tm):Prop where
 err:s.err=0
 inf:s.inf g=(natT,0)
 size:s.size≤900
theorem NumOk.shape{g:List Ty}{s:Tm}(h:NumOk g s):s.shape=true:=((Tm.err_iff s).1 h.err).1
theorem NumOk.near{g:List Ty}{s:Tm}(h:NumOk g s)(hg:g.length≤1000):s.near=true:=near_of (by rw[h.inf]) h.shape (by have:=h.size;omega)
theorem eqf_err{a b:Tm}(ha:a.shape=true)(hb:b.shape=true)(hz:a.size+b.size≤4095):(eqF a b).err=0:=
 (Fm.err_iff _).2 ⟨eqF_shape ha hb,by rw[eqF_size];omega⟩
theorem okT_typedF{g:List Ty}{f:Fm}(h:f.okT g)(he:f.err=0):typedF g f=0:=by
 have h1:=(Fm.err_iff f).1 he
 unfold typedF
 rw[if_neg (by simp[he])]
 exact okT_tyE f g h h1.1 h1.2
theorem lift_nat{g:List Ty}{s:Tm}{T:Ty}(hs:s.shape=true)(hi:s.inf g=(T,0))(u:Ty):(s.re (liftG 0 1) 0).inf (g++[u])=(T,0):=by
 have h:=lift_inf s g [u] [] 0 0 hs rfl
 rw[List.append_nil,List.append_nil] at h
 exact h.trans hi
theorem v0_inf(g:List Ty)(u:Ty):(vT 0).inf (g++[u])=(u,0):=by
 rw[inf_var' _ _ (by omega),if_neg (by simp)]
 have:look (g++[u]) 0=look [u] 0:=look_right (by simp)
 simp only[Int.toNat_zero]
 rw[this];rfl
theorem cntEq(a b:Tm):cntF 0 ((eqF a b).tms 0)=cnt 0 (a.vars 0)+cnt 0 (b.vars 0):=by
 simp[eqF,Fm.tms,Fm.tmss,cntF]
theorem nearEq{a b:Tm}(ha:a.near=true)(hb:b.near=true):(eqF a b).near=true:=by
 unfold Fm.near
 simp[eqF,Fm.tms,Fm.tmss,ha,hb]
theorem cnt_v0:cnt 0 ((vT 0).vars 0)=1:=by decide
theorem cnt_l1{s:Tm}(hs:s.shape=true):cnt 0 ((s.re (liftG 0 1) 0).vars 0)=0:=cnt_lift_no hs 1 0 (by omega) (by omega)
theorem size_v(i:Int):(vT i).size=1:=by simp[vT,Tm.size,Tm.sizes]
structure SideOk (g:List Ty) (a b:Tm):Prop where
 sa:a.shape=true
 sb:b.shape=true
 ia:a.inf (g++[natT])=(natT,0)
 ib:b.inf (g++[natT])=(natT,0)
 sz:a.size+b.size≤3000
theorem SideOk.err{g:List Ty}{a b:Tm}(h:SideOk g a b):(eqF a b).err=0:=eqf_err h.sa h.sb (by have:=h.sz;omega)
theorem SideOk.near{g:List Ty}{a b:Tm}(h:SideOk g a b)(hg:g.length≤16):(eqF a b).near=true:=
 nearEq (near_of (by rw[h.ia]) h.sa (by have:=h.sz;simp;omega)) (near_of (by rw[h.ib]) h.sb (by have:=h.sz;simp;omega))
theorem SideOk.typed{g:List Ty}{a b:Tm}(h:SideOk g a b):typedF (g++[natT]) (eqF a b)=0:=okT_typedF (eq_okT.2 ⟨h.ia,h.ib⟩) h.err
theorem SideOk.put{g:List Ty}{a b s:Tm}(h:SideOk g a b)(hg:g.length≤16)(hs:NumOk g s)(hz:1+a.size+b.size+(cnt 0 (a.vars 0)+cnt 0 (b.vars 0))*s.size≤4096):putFErr (eqF a b) 0 s=0:=by
 unfold putFErr
 rw[if_neg (by simp[h.err]),if_neg (by omega),if_neg (by simp[hs.err]),if_neg (by simp[h.near hg,hs.near (by omega)]),if_neg]
 rw[cntEq,eqF_size]
 have hp:=s.size_pos
 have hm:(cnt 0 (a.vars 0)+cnt 0 (b.vars 0))*(s.size-1)≤(cnt 0 (a.vars 0)+cnt 0 (b.vars 0))*s.size:=Nat.mul_le_mul_left _ (by omega)
 have e:(((cnt 0 (a.vars 0)+cnt 0 (b.vars 0):Nat):Int)*((s.size:Int)-1))=(((cnt 0 (a.vars 0)+cnt 0 (b.vars 0))*(s.size-1):Nat):Int):=by
  rw[Int.natCast_mul];congr 1;omega
 rw[e]
 omega
theorem substEq_inf{c:Ck}(hc:c.ok){a b x y s t:Tm}{p q:Pf}{u w:List Int}(h:SideOk c.tys a b)(hs:NumOk c.tys s)(ht:NumOk c.tys t)
 (zs:1+a.size+b.size+(cnt 0 (a.vars 0)+cnt 0 (b.vars 0))*s.size≤4096) (zt:1+a.size+b.size+(cnt 0 (a.vars 0)+cnt 0 (b.vars 0))*t.size≤4096)
 (hp:infP p c=(eqF s t,u,0)) (hq:infP q c=(eqF x y,w,0)):
 infP (substP (eqF a b) p q) c=if mtchF (eqF (a.re (putG 0 s) 0) (b.re (putG 0 s) 0)) (eqF x y)≠0 then noRes (mtchF (eqF (a.re (putG 0 s) 0) (b.re (putG 0 s) 0)) (eqF x y)) else(eqF (a.re (putG 0 t) 0) (b.re (putG 0 t) 0),[],0):=by
 have p1:=h.put hc.len hs zs
 have p2:=h.put hc.len ht zt
 rw[subst_inf h.typed hp hq p1 p2 (putF_err (by omega) p2)]
 have e:contF ((eqF a b).put 0 t)=false:=by rw[contF_eq];rfl
 have key:(if contF ((eqF a b).put 0 t)=true then w else [])=([]:List Int):=if_neg (by rw[e];simp)
 rw[key];rfl
def symP(s:Tm)(p:Pf):Pf:=substP (eqF (vT 0) (s.re (liftG 0 1) 0)) p (reflP s)
def transP(s:Tm)(p q:Pf):Pf:=substP (eqF (s.re (liftG 0 1) 0) (vT 0)) q p
def congP(g s:Tm)(p:Pf):Pf:=substP (eqF (apT (g.re (liftG 0 1) 0) (s.re (liftG 0 1) 0)) (apT (g.re (liftG 0 1) 0) (vT 0))) p (reflP (apT g s))
def injP(s:Tm)(p:Pf):Pf:=substP (eqF (s.re (liftG 0 1) 0) (apT predT (vT 0))) p (reflP s)
def eitherT(s t n:Tm):Tm:= .mk 6 0 natT [s,lmT natT (lmT natT (t.re (liftG 0 2) 0)),n]
def absurdP(p:Pf):Pf:=substP (eqF zT (eitherT zT (sT zT) (vT 0))) p (reflP zT)
theorem NumOk.refl{c:Ck}(hc:c.ok){s:Tm}(h:NumOk c.tys s):infP (reflP s) c=(eqF s s,[],0):=
 refl_inf (kTyp_of hc h.err h.inf) (eqf_err h.shape h.shape (by have:=h.size;omega))
theorem NumOk.eq_err{g:List Ty}{s t:Tm}(hs:NumOk g s)(ht:NumOk g t):(eqF s t).err=0:=eqf_err hs.shape ht.shape (by have:=hs.size;have:=ht.size;omega)
theorem sym_inf{c:Ck}(hc:c.ok){s t:Tm}(hs:NumOk c.tys s)(ht:NumOk c.tys t){p:Pf}{u:List Int}(hp:infP p c=(eqF s t,u,0)):infP (symP s p) c=(eqF t s,[],0):=by
 have zs:=hs.size
 have zt:=ht.size
 have zl:=lift_size 0 1 s 0 hs.shape
 have h:SideOk c.tys (vT 0) (s.re (liftG 0 1) 0):=⟨shape_vT 0 (by omega),lift_shape 0 hs.shape (by omega),v0_inf _ _,lift_nat hs.shape hs.inf _,by rw[zl,size_v];omega⟩
 have hcn:cnt 0 ((vT 0).vars 0)+cnt 0 ((s.re (liftG 0 1) 0).vars 0)=1:=by rw[cnt_v0,cnt_l1 hs.shape]
 rw[symP,substEq_inf hc h hs ht (by rw[hcn,zl,size_v];omega) (by rw[hcn,zl,size_v];omega) hp (hs.refl hc)]
 rw[put_v0 hs.shape,put_l1 hs.shape,put_v0 ht.shape,put_l1 hs.shape,mtchF_refl (hs.eq_err hs),if_neg (by simp)]
structure FunOk (g:List Ty) (f:Tm):Prop where
 err:f.err=0
 inf:f.inf g=(funT natT natT,0)
 size:f.size≤500
theorem accepts_of{c:Ck}(hc:c.ok){p:Pf}{f g:Fm}{u:List Int}(hp:p.err=0)(hi:infP p c=(g,u,0))(hf:f.err=0)(hok:f.okT c.tys):AcceptsR c.lems c.tys c.hyps p f=mtchF g f:=by
 have hI:InferR c.lems c.tys c.hyps p=(g,u,0):=by
  unfold InferR
  rw[if_neg (by simp[seqE_of hc]),if_neg (by simp[hp])];exact hi
 unfold AcceptsR
 rw[hI]
 simp only
 rw[if_neg (by simp),if_neg (by simp[okT_typedFC hok hf hc.ctx])]
def Dk.fms:Nat→Dk→List Ty→List Fm×Dk
 |0,d,_=>([],d)
 |n+1,d,g=>((Dk.fm 2 d g).1::(Dk.fms n (Dk.fm 2 d g).2 g).1,(Dk.fms n (Dk.fm 2 d g).2 g).2)
theorem Dk.fms_snoc:∀(n:Nat) (d:Dk) (g:List Ty),Dk.fms (n+1) d g=((Dk.fms n d g).1++[(Dk.fm 2 (Dk.fms n d g).2 g).1],(Dk.fm 2 (Dk.fms n d g).2 g).2)
 |0,d,g=>rfl
 |n+1,d,g=>by
  have ih:=Dk.fms_snoc n (Dk.fm 2 d g).2 g
  rw[Dk.fms,ih];rfl
theorem Dk.fms_len:∀(n:Nat) (d:Dk) (g:List Ty),(Dk.fms n d g).1.length=n
 |0,_,_=>rfl
 |n+1,d,g=>by simp[Dk.fms,Dk.fms_len n]
theorem Dk.fms_ok:∀(n:Nat) (d:Dk) (g:List Ty),d.ok→(Dk.fms n d g).2.ok
 |0,_,_,h=>h
 |n+1,d,g,h=>Dk.fms_ok n _ g (Dk.fm_ok 2 d g h)
def Dk.sqN(d:Dk):Nat:=(d.ctx.2.next 3).1.toNat
def Dk.sqH(d:Dk):List Fm:=(Dk.fms d.sqN (d.ctx.2.next 3).2 d.ctx.1).1
def Dk.sqD(d:Dk):Dk:=(Dk.fms d.sqN (d.ctx.2.next 3).2 d.ctx.1).2
theorem Dk.sqN_le(d:Dk):d.sqN≤2:=by have:=Dk.next_bd d.ctx.2 3 (by omega);unfold Dk.sqN;omega
theorem Dk.sqD_ok{d:Dk}(h:d.ok):d.sqD.ok:=Dk.fms_ok _ _ _ (Dk.next_ok (Dk.ctx_ok h) 3)
theorem Dk.sqH_len(d:Dk):d.sqH.length≤2:=by unfold Dk.sqH;rw[Dk.fms_len];exact d.sqN_le
def Dk.sqC(d:Dk):Ck:=⟨[],d.ctx.1,d.sqH⟩
theorem made_num(d:Dk){g:List Ty}(hg:smalls g):NumOk g (Dk.tm 3 d g natT).1∧(Dk.tm 3 d g natT).1.size≤60:=by
 have m:=Dk.tm_mk 3 d g natT hg small_nat (by omega) (by omega)
 have h1:=(m.size hg small_nat).2 rfl
 have h2:=s1_3
 exact⟨⟨m.err hg small_nat (by omega),m.inf hg small_nat,by omega⟩,by omega⟩
def Dk.w0(d:Dk):Tm×Dk:=Dk.tm 3 d.sqD d.ctx.1 natT
def Dk.w1(d:Dk):Tm×Dk:=Dk.tm 3 d.w0.2 d.ctx.1 natT
def Dk.w2(d:Dk):Tm×Dk:=Dk.tm 3 d.w1.2 d.ctx.1 natT
theorem Dk.w2_ok{d:Dk}(h:d.ok):d.w2.2.ok:=Dk.tm_ok 3 _ _ _ (Dk.tm_ok 3 _ _ _ (Dk.tm_ok 3 _ _ _ (Dk.sqD_ok h)))
def Dk.wH(d:Dk):List Fm:=d.sqH++[eqF d.w0.1 d.w1.1,eqF d.w1.1 d.w2.1]
def Dk.wC(d:Dk):Ck:=⟨[],d.ctx.1,d.wH⟩
theorem Dk.n0(d:Dk):NumOk d.ctx.1 d.w0.1∧d.w0.1.size≤60:=made_num _ d.ctx_smalls
theorem Dk.n1(d:Dk):NumOk d.ctx.1 d.w1.1∧d.w1.1.size≤60:=made_num _ d.ctx_smalls
theorem Dk.n2(d:Dk):NumOk d.ctx.1 d.w2.1∧d.w2.1.size≤60:=made_num _ d.ctx_smalls
abbrev hypP(i:Int):Pf:= .mk 1 i (.mk 0 []) [] [] []
theorem hypP_err{i:Int}(hi:0≤i):(hypP i).err=0:=by
 rw[Pf.err_iff]
 refine⟨?_,by simp[Pf.small,Pf.smalls],by simp[Pf.size,Pf.sizes]⟩
 rw[Pf.shape_eq]
 simp[Pf.head,ndP,hi,Ty.isNo,Ty.kind,Ty.args]
theorem reflP_err{s:Tm}(h:s.err=0):(reflP s).err=0:=by
 have h1:=(Tm.err_iff s).1 h
 rw[Pf.err_iff]
 refine⟨?_,?_,?_⟩
 ·rw [Pf.shape_eq]
  simp[reflP,Pf.head,ndP,h1.1,Ty.isNo,Ty.kind,Ty.args]
 ·rw [Pf.small_eq];simp[reflP,h1.2]
 ·rw [Pf.size_eq];simp[reflP];omega
theorem reflP_size(s:Tm):(reflP s).size=1+s.size:=by rw[Pf.size_eq];simp[reflP]
theorem hypP_size(i:Int):(hypP i).size=1:=by rw[Pf.size_eq];simp[hypP]
theorem substP_err{f:Fm}{p q:Pf}(hf:f.err=0)(hp:p.err=0)(hq:q.err=0)(hz:f.size+p.size+q.size≤16000):(substP f p q).err=0:=by
 have h1:=(Fm.err_iff f).1 hf
 have h2:=(Pf.err_iff p).1 hp
 have h3:=(Pf.err_iff q).1 hq
 rw[Pf.err_iff]
 refine⟨?_,?_,?_⟩
 ·rw [Pf.shape_eq]
  simp[substP,Pf.head,ndP,h1.1,h2.1,h3.1,Ty.isNo,Ty.kind,Ty.args]
 ·rw [Pf.small_eq];simp[substP,h1.2,h2.2.1,h3.2.1]
 ·rw [Pf.size_eq];simp[substP];omega
theorem symP_err{g:List Ty}{s:Tm}(hs:NumOk g s){p:Pf}(hp:p.err=0)(hz:p.size≤1000):(symP s p).err=0:=by
 have zs:=hs.size
 have zl:=lift_size 0 1 s 0 hs.shape
 have e1:(eqF (vT 0) (s.re (liftG 0 1) 0)).err=0:=eqf_err (shape_vT 0 (by omega)) (lift_shape 0 hs.shape (by omega)) (by rw[zl,size_v];omega)
 exact substP_err e1 hp (reflP_err hs.err) (by rw[eqF_size,zl,size_v,reflP_size];omega)
def lim(e:Int):Prop:=e=0∨e=4∨e=5∨e=3
def Dk.nH(d:Dk):List Fm:=d.wH++[eqF (sT d.w0.1) (sT d.w2.1),eqF zT (sT d.w1.1)]
def Dk.nC(d:Dk):Ck:=⟨[],d.ctx.1,d.nH⟩
theorem re_pt{g g':Int→Int→Tm}(h:∀i c,g i c=g' i c)(t:Tm)(b:Int):t.re g b=t.re g' b:=by
 have:g=g':=funext fun i=>funext fun c=>h i c
 rw[this]
theorem Fm.re_shift(G:Int→Tm→Tm)(c:Int)(f:Fm):∀b,f.re G (b+c)=f.re (fun b t=>G (b+c) t) b:=by
 induction f using Fm.ind with
 |h f ih=>
  intro b
  have e:upF f.kind (b+c)=upF f.kind b+c:=by simp only[upF];split<;>omega
  rw[Fm.re_eq,Fm.re_eq,e]
  congr 1
  exact List.map_congr_left fun x hx=>ih x hx _
theorem Fm.re_pt{G G':Int→Tm→Tm}(h:∀b t,0≤b→G b t=G' b t)(f:Fm):f.re G 0=f.re G' 0:=by
 refine Fm.re_congr f 0 fun p hp=>h _ _ ?_
 exact tms_snd p hp
theorem fput_at(f:Fm)(a:Int)(s:Tm):f.put a s=f.re (fun b t=>t.re (putG (a+b) s) 0) 0:=rfl
theorem put_qu{k:Int}(hk:quantK k=true)(s:Ty)(f:Fm)(a:Int)(x:Tm):(quF k s f).put a x=quF k s (f.put (a+1) x):=by
 rw[fput_at,Fm.re_eq]
 simp only[quF,Fm.kind,Fm.ty,Fm.terms,Fm.args,List.map_nil,List.map_cons]
 congr 2
 have e:upF k 0=0+1:=by simp[upF,hk]
 rw[e,Fm.re_shift,fput_at]
 refine Fm.re_pt (fun b t _=> ?_) f
 rw[show a+(b+1)=a+1+b by omega]
structure Gf (g:List Ty) (f:Fm) (n:Nat):Prop where
 sh:f.shape=true
 sz:f.size≤n
 ok:f.okT g
structure Gt (g:List Ty) (s:Tm) (T:Ty) (m:Nat):Prop where
 sh:s.shape=true
 sz:s.size≤m
 inf:s.inf g=(T,0)
theorem Gf.err{g:List Ty}{f:Fm}{n:Nat}(h:Gf g f n)(hn:n≤4096):f.err=0:=(Fm.err_iff f).2 ⟨h.sh,Nat.le_trans h.sz hn⟩
theorem Gt.err{g:List Ty}{s:Tm}{T:Ty}{m:Nat}(h:Gt g s T m)(hn:m≤4096):s.err=0:=(Tm.err_iff s).2 ⟨h.sh,Nat.le_trans h.sz hn⟩
theorem cntF_le_size(f:Fm)(a:Int):cntF a (f.tms 0)≤f.size:=by
 have h1:=cntF_le a (f.tms 0)
 have h2:=tms_size f 0
 omega
theorem Gf.put{g:List Ty}{f:Fm}{n m:Nat}{s:Tm}{T:Ty}(hf:Gf (g++[T]) f n)(hs:Gt g s T m)(hm:1≤m)(hz:n*m≤4096)(hg:g.length≤20):
 putFErr f 0 s=0∧Gf g (f.put 0 s) (n*m):=by
 have hn:n≤n*m:=Nat.le_mul_of_pos_right n hm
 have ef:=hf.err (by omega)
 have hp:=s.size_pos
 have p2:=f.size_pos
 have hmz:m≤4096:=by
  have:1*m≤n*m:=Nat.mul_le_mul_right m (by have:=hf.sz;omega)
  omega
 have es:=hs.err hmz
 have nf:=(fokT_near hf.ok ef (by simp;omega)).1
 have ns:=near_of (t:=s) (g:=g) (by rw[hs.inf]) hs.sh (by have:=hs.sz;omega)
 have hc:=cntF_le_size f 0
 have h1:cntF 0 (f.tms 0)*(s.size-1)≤n*(m-1):=Nat.mul_le_mul (Nat.le_trans hc hf.sz) (by have:=hs.sz;omega)
 have h2:n*(m-1)+n=n*m:=by rw[←Nat.mul_succ];congr 1;omega
 have h3:=hf.sz
 refine⟨?_,fput_shape (by omega) hs.sh hf.sh,?_,?_⟩
 ·unfold putFErr
  rw[if_neg (by simp[ef]),if_neg (by omega),if_neg (by simp[es]),if_neg (by simp[nf,ns]),if_neg]
  have e:((cntF 0 (f.tms 0):Int)*((s.size:Int)-1))=((cntF 0 (f.tms 0)*(s.size-1):Nat):Int):=by
   rw[Int.natCast_mul];congr 1;omega
  rw[e]
  omega
 ·have h4:=fput_size 0 s hs.sh f hf.sh 0
  have h5:(f.put 0 s).size=f.size+cntF 0 (f.tms 0)*(s.size-1):=h4
  omega
 ·have h6:=fokT_put 0 s g T hs.sh hs.inf f [] 0 rfl hf.sh (by simpa using hf.ok)
  have h7:(f.put 0 s).okT (g++[]):=h6
  simpa using h7
theorem Gf.lft{g h:List Ty}(m:List Ty){f:Fm}{n:Nat}(hf:Gf (g++h) f n):Gf (g++m++h) (f.lft h.length m.length) n:=
 have hk:=lft_keeps hf.sh (fr:=h.length) (by_:=m.length) (by omega)
 ⟨hk.1,by rw[hk.2.1];exact hf.sz,lft_okTs m hf.sh hf.ok⟩
theorem Gt.zero(g:List Ty):Gt g zT natT 1:=⟨by decide,by decide,zT_inf g⟩
theorem Gt.nil(g:List Ty):Gt g nilM listT 1:=⟨by decide,by decide,nil_inf g⟩
theorem Gt.v0(g:List Ty)(u:Ty):Gt (g++[u]) (vT 0) u 1:=⟨by decide,by decide,v0_inf g u⟩
theorem Gt.v1(g:List Ty)(u w:Ty):Gt (g++[u,w]) (vT 1) u 1:=by
 refine⟨by decide,by decide,?_⟩
 rw[inf_var' _ _ (by omega),if_neg (by simp;omega)]
 have:look (g++[u,w]) 1=look [u,w] 1:=look_right (by simp)
 simp only[show(1:Int).toNat=1 from rfl]
 rw[this];rfl
theorem Gt.cons(g:List Ty):Gt (g++[natT,listT]) consM listT 3:=by
 have h1:=(Gt.v1 g natT listT).inf
 have h0:(vT 0).inf (g++[natT,listT])=(listT,0):=by
  have:=(Gt.v0 (g++[natT]) listT).inf
  simpa using this
 exact⟨by decide,by decide,by
  have e:consM.inf (g++[natT,listT])=(listT,0):=by simp[consM,Tm.inf,Tm.infs,rule,h0,h1]
  exact e⟩
def numbersP(f:Fm)(p q:Pf):Pf:= .mk 8 0 natT [] [] [.mk 16 0 (.mk 0 []) [vT 0] [f.lft 1 1] [p,.mk 9 0 (.mk 0 []) [vT 0] [] [q]]]
def listsP(f:Fm)(p q:Pf):Pf:= .mk 8 0 listT [] [] [.mk 17 0 (.mk 0 []) [vT 0] [f.lft 1 1] [p,.mk 9 0 (.mk 0 []) [vT 0] [] [.mk 9 0 (.mk 0 []) [vT 1] [] [q]]]]
end Go.Ab
namespace Go.Ab
open Go
set_option linter.all false
set_option maxHeartbeats 1000000
def Dk.cf(d:Dk):Fm×Dk:=Dk.fm 2 d.sqD (d.ctx.1++[natT])
def Dk.cg(d:Dk):Fm×Dk:=Dk.fm 2 d.cf.2 (d.ctx.1++[listT])
def zeroH(f:Fm):Fm:=f.put 0 zT
def nextH(f:Fm):Fm:=(f.lft 1 1).put 0 (sT (vT 0))
def noneH(f:Fm):Fm:=f.put 0 nilM
def consH(f:Fm):Fm:=(f.lft 1 2).put 0 consM
def Dk.cH(d:Dk):List Fm:=d.sqH++[zeroH d.cf.1,quF 4 natT (nextH d.cf.1),noneH d.cg.1,quF 4 natT (quF 4 listT (consH d.cg.1))]
def Dk.cC(d:Dk):Ck:=⟨[],d.ctx.1,d.cH⟩
end Go.Ab
namespace Go.Ab
open Go
set_option linter.all false
mutual
def Pf.up(fr b v:Int):Pf→Pf
 | .mk k i s ts fs zs=> .mk k i s (ts.map fun t=>t.re (liftG (fr+v) b) 0) (fs.map fun f=>f.lft (fr+(v+fvK k)) b) (Pf.ups fr b v (vaK k) zs)
def Pf.ups(fr b v w:Int):List Pf→List Pf
 |[]=>[]
 |p::l=>Pf.up fr b (if l.length=0 then v+w else v) p::Pf.ups fr b v w l
end
mutual
def Pf.lh(fr b y:Int):Pf→Pf
 | .mk k i s ts fs zs=>if k=1 then .mk 1 (if i-y≥fr then i+b else i) (.mk 0 []) [] [] [] else .mk k i s ts fs (Pf.lhs fr b y (hyK k) zs)
def Pf.lhs(fr b y w:Int):List Pf→List Pf
 |[]=>[]
 |p::l=>Pf.lh fr b (if l.length=0 then y+w else y) p::Pf.lhs fr b y w l
end
mutual
def Pf.ix(C:Int):Pf→Prop
 | .mk _ _ _ ts fs zs=>(∀t∈ts,∀p∈t.vars 0,0≤p.1∧p.1<C)∧(∀f∈fs,∀p∈f.tms 0,∀q∈p.1.vars 0,0≤q.1∧q.1<C)∧Pf.ixs C zs
def Pf.ixs(C:Int):List Pf→Prop
 |[]=>True
 |p::l=>Pf.ix C p∧Pf.ixs C l
end
mutual
def Pf.hx(C:Int):Pf→Prop
 | .mk k i _ _ _ zs=>if k=1 then 0≤i∧i<C else Pf.hxs C zs
def Pf.hxs(C:Int):List Pf→Prop
 |[]=>True
 |p::l=>Pf.hx C p∧Pf.hxs C l
end
end Go.Ab
namespace Go.Ab
open Go
set_option linter.all false
set_option maxHeartbeats 1000000
inductive FP:Fm→Fm→Prop
 |refl (f):FP f f
 |eq {a b b'} (h:Pst b b'):FP (eqF a b) (eqF a b')
 |two {k a a' b b'} (ha:FP a a') (hb:FP b b'):FP (twoF k a b) (twoF k a' b')
 |qu {k s a a'} (ha:FP a a'):FP (quF k s a) (quF k s a')
def lim3(e:Int):Prop:=e=0∨e=4∨e=5
theorem two_errs{k:Int}{a b:Fm}(h:(twoF k a b).err=0):a.err=0∧b.err=0:=⟨part_err h (by simp[twoF]),part_err h (by simp[twoF])⟩
theorem qu_errs{k:Int}{s:Ty}{a:Fm}(h:(quF k s a).err=0):a.err=0:=part_err h (by simp[quF])
mutual
def Fm.dp:Fm→Nat
 | .mk _ _ _ zs=>1+Fm.dps zs
def Fm.dps:List Fm→Nat
 |[]=>0
 |f::l=>Fm.dp f+Fm.dps l
end
theorem Fm.dps_eq:∀l:List Fm,Fm.dps l=(l.map Fm.dp).sum
 |[]=>by simp[Fm.dps]
 |f::l=>by simp[Fm.dps,Fm.dps_eq l]
theorem Fm.dp_eq(f:Fm):f.dp=1+(f.args.map Fm.dp).sum:=by cases f;simp only[Fm.dp,Fm.dps_eq];rfl
theorem dp_re(G:Int→Tm→Tm)(f:Fm):∀b,(f.re G b).dp=f.dp:=by
 induction f using Fm.ind with
 |h f ih=>
  intro b
  rw[Fm.dp_eq,Fm.dp_eq,Fm.re_eq]
  simp only[Fm.args_mk,List.map_map]
  congr 2
  exact List.map_congr_left fun x hx=>ih x hx _
theorem dp_put(f:Fm)(a:Int)(s:Tm):(f.put a s).dp=f.dp:=dp_re _ f 0
theorem dp_size(f:Fm):f.dp≤f.size:=by
 induction f using Fm.ind with
 |h f ih=>
  rw[Fm.dp_eq,Fm.size_eq]
  have:(f.args.map Fm.dp).sum≤(f.args.map Fm.size).sum:=by
   have key:∀l:List Fm,(∀x∈l,x.dp≤x.size)→(l.map Fm.dp).sum≤(l.map Fm.size).sum:=by
    intro l
    induction l with
    |nil=>intro _;simp
    |cons x l ih=>intro h;have:=ih fun y hy=>h y (by simp[hy]);have:=h x (by simp);simp only[List.map_cons,List.sum_cons];omega
   exact key f.args ih
  omega
def arg(f:Fm)(i:Nat):Fm:=f.args.getD i noFm
def trm(f:Fm)(i:Nat):Tm:=f.terms.getD i noTm
def exM(s t:Tm):Fm:=eqF (s.re (liftG 0 1) 0) (eitherT (s.re (liftG 0 1) 0) (t.re (liftG 0 1) 0) (vT 0))
def noth:Nat→Int→Fm→Int→Pf×Int
 |0,_,_,h=>(hypP h,-1)
 |n+1,r,f,h=>
  if r-f.num<0∨f.err≠0 then(hypP h,-1)
  else if f.kind=2 then(.mk 3 0 (.mk 0 []) [] [] [(noth n (r-f.num) (arg f 0) h).1,(noth n (noth n (r-f.num) (arg f 0) h).2 (arg f 1) h).1],(noth n (noth n (r-f.num) (arg f 0) h).2 (arg f 1) h).2)
  else if f.kind=3 then(.mk 6 0 (.mk 0 []) [] [arg f 0] [(noth n (r-f.num) (arg f 1) (h+1)).1],(noth n (r-f.num) (arg f 1) (h+1)).2)
  else if f.kind=4∨f.kind=6 then(.mk (if f.kind=6 then 12 else 8) 0 f.ty [] [] [(noth n (r-f.num) (arg f 0) h).1],(noth n (r-f.num) (arg f 0) h).2)
  else if f.kind=5∨f.kind=7 then
   if putFErr (arg f 0) 0 (dfl f.ty)≠0 then(hypP h,-1)
   else(.mk (if f.kind=7 then 14 else 10) 0 (.mk 0 []) [dfl f.ty] [f] [(noth n (r-f.num) ((arg f 0).put 0 (dfl f.ty)) h).1],(noth n (r-f.num) ((arg f 0).put 0 (dfl f.ty)) h).2)
  else(substP (exM (trm f 0) (trm f 1)) (hypP h) (reflP (trm f 0)),r-f.num)
def Acc(c:Ck)(p:Pf)(f:Fm):Prop:=(∃x,infP p c=(x,[],0)∧FP x f∧x.err=0∧x.okT c.tys)∨∃e,infP p c=noRes e∧(e=3∨e=4∨e=5)
theorem dfl_ok{s:Ty}(h:s.err=0):(∀g,(dfl s).inf g=(s,0))∧(dfl s).shape=true∧(dfl s).size≤64:=by
 have h1:=(Ty.err_iff s).1 h
 obtain⟨a,b,c,_⟩:=dfl_facts s h1.1 h1.2
 exact⟨a,b,by omega⟩
theorem arg_two0(k:Int)(a b:Fm):arg (twoF k a b) 0=a:=rfl
theorem arg_two1(k:Int)(a b:Fm):arg (twoF k a b) 1=b:=rfl
theorem arg_qu(k:Int)(s:Ty)(a:Fm):arg (quF k s a) 0=a:=rfl
theorem dp_two(k:Int)(a b:Fm):(twoF k a b).dp=1+a.dp+b.dp:=by rw[Fm.dp_eq];simp[twoF];omega
theorem dp_qu(k:Int)(s:Ty)(a:Fm):(quF k s a).dp=1+a.dp:=by rw[Fm.dp_eq];simp[quF]
theorem dp_pos(f:Fm):1≤f.dp:=by rw[Fm.dp_eq];omega
def exfP(out p:Pf):Pf:= .mk 7 0 (.mk 0 []) [] [] [.mk 6 0 (.mk 0 []) [] [falseF] [out],p]
theorem pf_full1(k i:Int)(s:Ty)(ts:List Tm)(fs:List Fm)(zs:List Pf):(Pf.mk k i s ts fs zs).full=1+s.size+(ts.map Tm.full).sum+(fs.map Fm.full).sum+(zs.map Pf.full).sum:=Pf.full_eq _
theorem no_size:(Ty.mk 0 []).size=1:=by decide
theorem ty_size{s:Ty}(h:s.err=0):s.size≤64:=((Ty.err_iff s).1 h).2
def doneQ(p:Pf):Pf×Int:=if p.err=0 then(p,0) else(noPf,4)
def exfR(n:Nat)(f:Fm)(p:Pf):Pf×Int:=if(noth n 262144 f 0).2<0 then(noPf,4) else doneQ (exfP (noth n 262144 f 0).1 p)
def Dk.xf(d:Dk):Fm×Dk:=Dk.fm 3 d.sqD d.ctx.1
def Dk.xC(d:Dk):Ck:=⟨[],d.ctx.1,d.sqH++[falseF]⟩
def Tw:Nat→Nat→Fm→Prop
 |0,L,f=>∃s t,f=eqF s t∧f.size≤L
 |n+1,L,f=>(∃s t,f=eqF s t∧f.size≤L)∨(∃k a b,(k=2∨k=3)∧f=twoF k a b∧Tw n L a∧Tw n L b)∨∃k s a,(4≤k∧k≤7)∧s.small∧f=quF k s a∧Tw n L a
theorem Tw.size:∀{n L:Nat} {f:Fm},Tw n L f→f.size+1≤(L+1)*2^n
 |0,L,f,⟨s,t,e,h⟩=>by simp;omega
 |n+1,L,f,h=>by
  have hp:1≤2^n:=Nat.one_le_two_pow
  have h2:(L+1)*2^(n+1)=2*((L+1)*2^n):=by rw[Nat.pow_succ];simp[Nat.mul_comm,Nat.mul_left_comm]
  have h3:(L+1)*1≤(L+1)*2^n:=Nat.mul_le_mul_left _ hp
  rcases h with⟨s,t,e,h⟩|⟨k,a,b,hk,e,ha,hb⟩|⟨k,s,a,hk,hs,e,ha⟩
  ·omega
  ·have h4:=ha.size
   have h5:=hb.size
   rw[e,twoF_size];omega
  ·have h4:=ha.size
   rw[e,quF_size];omega
theorem Tw.up{n L:Nat}{f:Fm}(h:Tw n L f):Tw (n+1) L f:=by
 induction n generalizing f with
 |zero=>exact .inl h
 |succ n ih=>
  rcases h with h|⟨k,a,b,hk,e,ha,hb⟩|⟨k,s,a,hk,hs,e,ha⟩
  ·exact .inl h
  ·exact .inr (.inl ⟨k,a,b,hk,e,ih ha,ih hb⟩)
  ·exact .inr (.inr ⟨k,s,a,hk,hs,e,ih ha⟩)
theorem put_two{k:Int}(hk:k=2∨k=3)(a b:Fm)(i:Int)(x:Tm):(twoF k a b).put i x=twoF k (a.put i x) (b.put i x):=by
 rw[fput_at,Fm.re_eq]
 have e:upF k 0=0:=by rcases hk with rfl|rfl<;>rfl
 simp only[twoF,Fm.kind,Fm.ty,Fm.terms,Fm.args,List.map_nil,List.map_cons]
 rw[e];rfl
theorem Tw.put:∀{n L:Nat} {f:Fm},Tw n L f→f.shape=true→∀(i:Int) (x:Tm),0≤i→x.shape=true→x.size≤3→Tw n (3*L) (f.put i x)
 |0,L,f,⟨s,t,e,h⟩,hs,i,x,hi,hx,hz=>by
  have h1:=fput_size i x hx f hs 0
  have h2:(f.put i x).size=f.size+cntF i (f.tms 0)*(x.size-1):=h1
  have h3:=cntF_le_size f i
  have h4:cntF i (f.tms 0)*(x.size-1)≤f.size*2:=Nat.mul_le_mul h3 (by omega)
  subst e
  exact⟨s.re (putG (i+0) x) 0,t.re (putG (i+0) x) 0,rfl,by omega⟩
 |n+1,L,f,h,hs,i,x,hi,hx,hz=>by
  rcases h with⟨s,t,e,h⟩|⟨k,a,b,hk,e,ha,hb⟩|⟨k,s,a,hk,hsm,e,ha⟩
  ·exact Tw.up' (Tw.put (n:=0) ⟨s,t,e,h⟩ hs i x hi hx hz)
  ·subst e
   have sa:a.shape=true:=fshape_args hs (x:=a) (by simp[twoF])
   have sb:b.shape=true:=fshape_args hs (x:=b) (by simp[twoF])
   rw[put_two hk]
   exact .inr (.inl ⟨k,_,_,hk,rfl,Tw.put ha sa i x hi hx hz,Tw.put hb sb i x hi hx hz⟩)
  ·subst e
   have sa:a.shape=true:=fshape_args hs (x:=a) (by simp[quF])
   rw[put_qu (quantK_iff.2 hk)]
   exact .inr (.inr ⟨k,s,_,hk,hsm,rfl,Tw.put ha sa (i+1) x (by omega) hx hz⟩)
where
 Tw.up' {n L:Nat} {f:Fm} (h:Tw 0 L f):Tw (n+1) L f:= .inl h
def cost:Nat→Nat→Nat
 |0,L=>L
 |n+1,L=>(L+1)*2^(n+1)+2*cost n L+cost n (3*L)
def psz:Nat→Nat→Nat
 |0,L=>3*L+8
 |n+1,L=>10+3*L+(L+1)*2^(n+1)+2*psz n L+psz n (3*L)
structure Pg (p:Pf) (n:Nat):Prop where
 sh:p.shape=true
 sm:p.small=true
 sz:p.size≤n
theorem Pg.err{p:Pf}{n:Nat}(h:Pg p n)(hn:n≤16384):p.err=0:=(Pf.err_iff p).2 ⟨h.sh,h.sm,Nat.le_trans h.sz hn⟩
theorem Pg.of{p:Pf}(h:p.err=0):Pg p p.size:=have h1:=(Pf.err_iff p).1 h;⟨h1.1,h1.2.1,Nat.le_refl _⟩
theorem Pg.mono{p:Pf}{n m:Nat}(h:Pg p n)(hn:n≤m):Pg p m:=⟨h.sh,h.sm,Nat.le_trans h.sz hn⟩
theorem pf_size1(k i:Int)(s:Ty)(ts:List Tm)(fs:List Fm)(zs:List Pf):(Pf.mk k i s ts fs zs).size=1+(ts.map Tm.size).sum+(fs.map Fm.size).sum+(zs.map Pf.size).sum:=Pf.size_eq _
theorem Pg.imp{p:Pf}{f:Fm}{n m:Nat}(hf:f.shape=true)(hz:f.size≤m)(hm:m≤4096)(hp:Pg p n):Pg (.mk 6 0 (.mk 0 []) [] [f] [p]) (1+m+n):=by
 refine⟨?_,?_,?_⟩
 ·simp [Pf.shape,Pf.shapes,Pf.head,ndP,hp.sh,hf,Ty.isNo,Ty.kind,Ty.args]
 ·simp [Pf.small,Pf.smalls,hp.sm];omega
 ·have:=hp.sz
  simp only[pf_size1,List.map_cons,List.map_nil,List.sum_cons,List.sum_nil];omega
theorem Pg.all{k:Int}{p:Pf}{s:Ty}{n:Nat}(hk:k=8∨k=12)(hs:s.err=0)(hp:Pg p n):Pg (.mk k 0 s [] [] [p]) (1+n):=by
 have ho:s.ok=true:=by
  have h1:=(Ty.err_iff s).1 hs
  simp only[Ty.ok,Bool.and_eq_true,decide_eq_true_eq];exact h1
 refine⟨?_,?_,?_⟩
 ·rcases hk with rfl|rfl<;>simp[Pf.shape,Pf.shapes,Pf.head,ndP,hp.sh,ho]
 ·simp [Pf.small,Pf.smalls,hp.sm]
 ·have:=hp.sz
  simp only[pf_size1,List.map_cons,List.map_nil,List.sum_cons,List.sum_nil];omega
theorem Pg.ex{k:Int}{p:Pf}{t:Tm}{f:Fm}{n m z:Nat}(hk:k=10∨k=14)(ht:t.shape=true)(hz:t.size≤z)(hz2:z≤4096)(hf:f.shape=true)(hm:f.size≤m)(hm2:m≤4096)(hp:Pg p n):Pg (.mk k 0 (.mk 0 []) [t] [f] [p]) (1+z+m+n):=by
 refine⟨?_,?_,?_⟩
 ·rcases hk with rfl|rfl<;>simp[Pf.shape,Pf.shapes,Pf.head,ndP,hp.sh,ht,hf,Ty.isNo,Ty.kind,Ty.args]
 ·simp [Pf.small,Pf.smalls,hp.sm];omega
 ·have:=hp.sz
  simp only[pf_size1,List.map_cons,List.map_nil,List.sum_cons,List.sum_nil];omega
theorem Pg.refl{t:Tm}{n:Nat}(ht:t.shape=true)(hz:t.size≤n)(hn:n≤4096):Pg (reflP t) (1+n):=by
 have h:=Pg.of (reflP_err (s:=t) ((Tm.err_iff t).2 ⟨ht,by omega⟩))
 rw[reflP_size] at h
 exact h.mono (by omega)
def orB(a b:Fm):Fm:=twoF 2 (twoF 3 zeroF (a.lft 0 1)) (twoF 3 (notF zeroF) (b.lft 0 1))
def orA(a b:Fm):Fm:=orF (a.lft 0 1) (b.lft 0 1)
def impEP(p q:Pf):Pf:= .mk 7 0 (.mk 0 []) [] [] [p,q]
def impP(f:Fm)(p:Pf):Pf:= .mk 6 0 (.mk 0 []) [] [f] [p]
def andP(p q:Pf):Pf:= .mk 3 0 (.mk 0 []) [] [] [p,q]
def someP(f:Fm)(t:Tm)(p:Pf):Pf:= .mk 10 0 (.mk 0 []) [t] [f] [p]
def leftP(a b:Fm)(i:Int)(x:Pf):Pf:=someP (orA a b) zT (andP (impP (eqF zT zT) (hypP (i+1))) (impP (notF (eqF zT zT)) (exfP x (impEP (hypP 0) (reflP zT)))))
def rightP(a b:Fm)(i:Int)(x:Pf):Pf:=someP (orA a b) (sT zT) (andP (impP (eqF (sT zT) zT) (exfP x (symP (sT zT) (hypP 0)))) (impP (notF (eqF (sT zT) zT)) (hypP (i+1))))
def knownF(x:Tm)(a b:Fm)(n:Int):Fm:=twoF 2 (twoF 3 (eqF x zT) (a.lft 0 n)) (twoF 3 (notF (eqF x zT)) (b.lft 0 n))
def caseF(a b c:Fm):Fm:=twoF 3 (knownF (vT 0) a b 2) (c.lft 0 2)
def nxT:Tm:=sT (vT 0)
def andLP(p:Pf):Pf:= .mk 4 0 (.mk 0 []) [] [] [p]
def andRP(p:Pf):Pf:= .mk 5 0 (.mk 0 []) [] [] [p]
def caseB(a b:Fm)(q:Pf):Pf:=impP (knownF zT a b 1) (impEP q (impEP (andLP (hypP 0)) (reflP zT)))
def difP:Pf:=impP (eqF nxT zT) (absurdP (symP nxT (hypP 0)))
def caseS(a b:Fm)(r:Pf):Pf:=impP (knownF nxT a b 2) (impEP r (impEP (andRP (hypP 0)) difP))
def indP(f:Fm)(t:Tm)(p q:Pf):Pf:= .mk 16 0 (.mk 0 []) [t] [f] [p,q]
def casesP(a b c:Fm)(p q r:Pf):Pf:= .mk 11 0 (.mk 0 []) [] [] [p,impEP (indP (caseF a b c) (vT 0) (caseB a b q) (caseS a b r)) (hypP 0)]
theorem Pg.some{p:Pf}{t:Tm}{f:Fm}{n m z:Nat}(ht:t.shape=true)(hz:t.size≤z)(hz2:z≤4096)(hf:f.shape=true)(hm:f.size≤m)(hm2:m≤4096)(hp:Pg p n):Pg (someP f t p) (1+z+m+n):=Pg.ex (.inl rfl) ht hz hz2 hf hm hm2 hp
def Dk.oA(d:Dk):Fm×Dk:=Dk.fm 2 d.sqD d.ctx.1
def Dk.oB(d:Dk):Fm×Dk:=Dk.fm 2 d.oA.2 d.ctx.1
def Dk.oC(d:Dk):Fm×Dk:=Dk.fm 1 d.oB.2 d.ctx.1
theorem fm1_gf(d:Dk){g:List Ty}(hg:smalls g):Gf g (Dk.fm 1 d g).1 487:=by
 have h:=Dk.fm_good 1 d g hg
 exact⟨h.1,by have:=h.2.1;omega,Dk.fm_okT 1 _ _ hg⟩
def Dk.oH(d:Dk):List Fm:=d.sqH++[d.oA.1,d.oB.1,orA d.oA.1 d.oB.1,twoF 3 d.oA.1 d.oC.1,twoF 3 d.oB.1 d.oC.1]
def Dk.oK(d:Dk):Ck:=⟨[],d.ctx.1,d.oH⟩
def Dk.oL(d:Dk):Pf:=leftP d.oA.1 d.oB.1 4 (noth d.oB.1.dp 262144 d.oB.1 0).1
def Dk.oR(d:Dk):Pf:=rightP d.oA.1 d.oB.1 3 (noth d.oA.1.dp 262144 d.oA.1 0).1
def Dk.oX(d:Dk):Pf:=casesP d.oA.1 d.oB.1 d.oC.1 (hypP 2) (hypP 3) (hypP 3)
end Go.Ab
namespace Go.Ab
open Go
set_option linter.all false
abbrev w64(n:Int):Int:=IntKind.i64.wrap n
def liftW(fr by_:Int)(i b:Int):Tm:= .mk 1 (if w64 (i-b)≥fr then w64 (i+by_) else i) (.mk 0 []) []
def Tm.lw(t:Tm)(fr by_:Int):Tm:=t.re (liftW fr by_) 0
def Fm.lw(f:Fm)(fr by_:Int):Fm:=f.re (fun b t=>t.lw (fr+b) by_) 0
theorem Ty.size_one(t:Ty):1≤t.size:=by cases t;simp only[Ty.size];omega
theorem Tm.full_two(t:Tm):2≤t.full:=by rw[Tm.full_eq];have:=t.ty.size_one;omega
theorem sum_le_map{α:Type}{f g:α→Nat}:∀{l:List α},(∀x∈l,f x≤g x)→(l.map f).sum≤(l.map g).sum
 |[],_=>Nat.le_refl _
 |x::l,h=>by
  simp only[List.map_cons,List.sum_cons]
  have h1:=h x (by simp)
  have h2:=sum_le_map (l:=l) fun y hy=>h y (by simp[hy])
  omega
theorem Tm.re_fle{G:Int→Int→Tm}(hG:∀i b,(G i b).full≤2)(t:Tm):∀b,(t.re G b).full≤t.full:=by
 induction t using Tm.ind with
 |h t ih=>
  intro b
  by_cases h1:t.kind=1
  ·rw [re_var h1]
   have:=hG t.index b
   have:=t.full_two
   omega
  ·rw [re_node h1,t.full_eq,Tm.full_eq]
   simp only[Tm.args_mk,Tm.ty_mk,List.map_map]
   have:=sum_le_map (f:=Tm.full∘Tm.re G (up t.kind b)) (g:=Tm.full) fun x hx=>ih x hx (up t.kind b)
   omega
theorem Fm.re_fle{G:Int→Tm→Tm}(hG:∀b t,(G b t).full≤t.full)(f:Fm):∀b,(f.re G b).full≤f.full:=by
 induction f using Fm.ind with
 |h f ih=>
  intro b
  rw[f.full_eq,Fm.full_eq,Fm.re_eq]
  simp only[Fm.terms_mk,Fm.args_mk,Fm.ty_mk,List.map_map]
  have h1:=sum_le_map (l:=f.terms) (f:=Tm.full∘G b) (g:=Tm.full) fun x _=>hG b x
  have h2:=sum_le_map (f:=Fm.full∘Fm.re G (upF f.kind b)) (g:=Fm.full) fun x hx=>ih x hx (upF f.kind b)
  omega
theorem liftW_full(fr by_ i b:Int):(liftW fr by_ i b).full≤2:=by simp[liftW,Tm.full,Tm.fulls,Ty.size,Ty.sizes]
theorem lw_full(t:Tm)(fr by_:Int):(t.lw fr by_).full≤t.full:=Tm.re_fle (liftW_full fr by_) t 0
theorem flw_full(f:Fm)(fr by_:Int):(f.lw fr by_).full≤f.full:=Fm.re_fle (fun b t=>lw_full t (fr+b) by_) f 0
mutual
def Pf.uw(fr b v:Int):Pf→Pf
 | .mk k i s ts fs zs=> .mk k i s (ts.map fun t=>t.lw (fr+v) b) (fs.map fun f=>f.lw (fr+(v+fvK k)) b) (Pf.uws fr b v (vaK k) zs)
def Pf.uws(fr b v w:Int):List Pf→List Pf
 |[]=>[]
 |p::l=>Pf.uw fr b (if l.length=0 then v+w else v) p::Pf.uws fr b v w l
end
mutual
def Pf.hw(fr b y:Int):Pf→Pf
 | .mk k i s ts fs zs=>if k=1 then .mk 1 (if w64 (i-y)≥fr then w64 (i+b) else i) (.mk 0 []) [] [] [] else .mk k i s ts fs (Pf.hws fr b y (hyK k) zs)
def Pf.hws(fr b y w:Int):List Pf→List Pf
 |[]=>[]
 |p::l=>Pf.hw fr b (if l.length=0 then y+w else y) p::Pf.hws fr b y w l
end
theorem Pf.uw_eq(fr b v:Int)(p:Pf):p.uw fr b v= .mk p.kind p.index p.ty (p.terms.map fun t=>t.lw (fr+v) b) (p.forms.map fun f=>f.lw (fr+(v+fvK p.kind)) b) (Pf.uws fr b v (vaK p.kind) p.args):=by cases p;simp only[Pf.uw];rfl
theorem Pf.hw_eq(fr b y:Int)(p:Pf):p.hw fr b y=if p.kind=1 then .mk 1 (if w64 (p.index-y)≥fr then w64 (p.index+b) else p.index) (.mk 0 []) [] [] [] else .mk p.kind p.index p.ty p.terms p.forms (Pf.hws fr b y (hyK p.kind) p.args):=by cases p;simp only[Pf.hw];rfl
theorem uws_len(fr b v w:Int):∀l:List Pf,(Pf.uws fr b v w l).length=l.length
 |[]=>by simp only[Pf.uws]
 |p::l=>by simp only[Pf.uws,List.length_cons,uws_len fr b v w l]
theorem hws_len(fr b v w:Int):∀l:List Pf,(Pf.hws fr b v w l).length=l.length
 |[]=>by simp only[Pf.hws]
 |p::l=>by simp only[Pf.hws,List.length_cons,hws_len fr b v w l]
theorem uws_get(fr b v w:Int):∀(l:List Pf) (m:Nat) (h:m<l.length) (h':m<(Pf.uws fr b v w l).length),(Pf.uws fr b v w l)[m]=l[m].uw fr b (if m+1=l.length then v+w else v)
 |p::l,0,h,h'=>by
  simp only[Pf.uws,List.getElem_cons_zero,List.length_cons]
  by_cases e:l.length=0
  ·rw [if_pos e,if_pos (by omega)]
  ·rw [if_neg e,if_neg (by omega)]
 |p::l,m+1,h,h'=>by
  simp only[Pf.uws,List.getElem_cons_succ,List.length_cons,Nat.add_right_cancel_iff]
  exact uws_get fr b v w l m (by simpa using h) _
theorem hws_get(fr b v w:Int):∀(l:List Pf) (m:Nat) (h:m<l.length) (h':m<(Pf.hws fr b v w l).length),(Pf.hws fr b v w l)[m]=l[m].hw fr b (if m+1=l.length then v+w else v)
 |p::l,0,h,h'=>by
  simp only[Pf.hws,List.getElem_cons_zero,List.length_cons]
  by_cases e:l.length=0
  ·rw [if_pos e,if_pos (by omega)]
  ·rw [if_neg e,if_neg (by omega)]
 |p::l,m+1,h,h'=>by
  simp only[Pf.hws,List.getElem_cons_succ,List.length_cons,Nat.add_right_cancel_iff]
  exact hws_get fr b v w l m (by simpa using h) _
theorem uws_take{fr b v w:Int}{l:List Pf}{m:Nat}(h:m<l.length):(Pf.uws fr b v w l).take m++[l[m].uw fr b (if m+1=l.length then v+w else v)]=(Pf.uws fr b v w l).take (m+1):=by
 rw[←uws_get fr b v w l m h (by rw[uws_len];exact h),List.take_append_getElem]
theorem hws_take{fr b v w:Int}{l:List Pf}{m:Nat}(h:m<l.length):(Pf.hws fr b v w l).take m++[l[m].hw fr b (if m+1=l.length then v+w else v)]=(Pf.hws fr b v w l).take (m+1):=by
 rw[←hws_get fr b v w l m h (by rw[hws_len];exact h),List.take_append_getElem]
theorem uws_all{fr b v w:Int}{l:List Pf}:(Pf.uws fr b v w l).take l.length=Pf.uws fr b v w l:=by rw[←uws_len fr b v w l,List.take_length]
theorem hws_all{fr b v w:Int}{l:List Pf}:(Pf.hws fr b v w l).take l.length=Pf.hws fr b v w l:=by rw[←hws_len fr b v w l,List.take_length]
theorem uws_mem{fr b v w:Int}:∀{l:List Pf} {x:Pf},x∈Pf.uws fr b v w l→∃y∈l,∃v',x=y.uw fr b v'
 |[],x,h=>by simp[Pf.uws] at h
 |p::l,x,h=>by
  simp only[Pf.uws,List.mem_cons] at h
  rcases h with rfl|h
  ·exact ⟨p,by simp,_,rfl⟩
  ·obtain ⟨y,hy,e⟩:=uws_mem h
   exact⟨y,by simp[hy],e⟩
theorem uws_full{fr b v w:Int}:∀{l:List Pf},(∀p∈l,∀v,(p.uw fr b v).full≤p.full)→((Pf.uws fr b v w l).map Pf.full).sum≤(l.map Pf.full).sum
 |[],_=>by simp[Pf.uws]
 |p::l,h=>by
  simp only[Pf.uws,List.map_cons,List.sum_cons]
  have h1:=h p (by simp) (if l.length=0 then v+w else v)
  have h2:=uws_full (v:=v) (w:=w) (l:=l) fun q hq=>h q (by simp[hq])
  omega
theorem hws_full{fr b v w:Int}:∀{l:List Pf},(∀p∈l,∀v,(p.hw fr b v).full≤p.full)→((Pf.hws fr b v w l).map Pf.full).sum≤(l.map Pf.full).sum
 |[],_=>by simp[Pf.hws]
 |p::l,h=>by
  simp only[Pf.hws,List.map_cons,List.sum_cons]
  have h1:=h p (by simp) (if l.length=0 then v+w else v)
  have h2:=hws_full (v:=v) (w:=w) (l:=l) fun q hq=>h q (by simp[hq])
  omega
theorem uw_full(fr b:Int)(p:Pf):∀v,(p.uw fr b v).full≤p.full:=by
 induction p using Pf.ind with
 |h p ih=>
  intro v
  rw[p.full_eq,Pf.full_eq,Pf.uw_eq]
  have h1:=sum_le_map (l:=p.terms) (f:=Tm.full∘fun t=>t.lw (fr+v) b) (g:=Tm.full) fun x _=>lw_full x (fr+v) b
  have h2:=sum_le_map (l:=p.forms) (f:=Fm.full∘fun t=>t.lw (fr+(v+fvK p.kind)) b) (g:=Fm.full) fun x _=>flw_full x (fr+(v+fvK p.kind)) b
  have h3:=uws_full (v:=v) (w:=vaK p.kind) ih
  simp only[Pf.terms,Pf.forms,Pf.args,Pf.ty,List.map_map] at*
  omega
theorem hw_full(fr b:Int)(p:Pf):∀v,(p.hw fr b v).full≤p.full:=by
 induction p using Pf.ind with
 |h p ih=>
  intro v
  rw[Pf.hw_eq]
  by_cases hk:p.kind=1
  ·rw [if_pos hk,p.full_eq]
   have:=p.ty.size_one
   simp only[Pf.full,Pf.fulls,List.map_nil,List.sum_nil,Ty.size,Ty.sizes]
   omega
  ·rw [if_neg hk,p.full_eq,Pf.full_eq]
   have h3:=hws_full (v:=v) (w:=hyK p.kind) ih
   simp only[Pf.terms,Pf.forms,Pf.args,Pf.ty] at*
   omega
mutual
def Pf.nd:Pf→Prop
 | .mk k _ _ _ _ zs=>(∃n,ndP k=some n∧zs.length=n.args)∧Pf.nds zs
def Pf.nds:List Pf→Prop
 |[]=>True
 |p::l=>Pf.nd p∧Pf.nds l
end
theorem nds_iff:∀l:List Pf,Pf.nds l↔∀p∈l,p.nd
 |[]=>by simp[Pf.nds]
 |p::l=>by simp[Pf.nds,nds_iff l]
theorem Pf.nd_iff(p:Pf):p.nd↔(∃n,ndP p.kind=some n∧p.args.length=n.args)∧∀x∈p.args,x.nd:=by
 cases p;simp only[Pf.nd,nds_iff];rfl
theorem nd_of(p:Pf):p.shape=true→p.nd:=by
 induction p using Pf.ind with
 |h p ih=>
  intro hs
  obtain⟨nd,n1,n2,n3,n4,_⟩:=pf_parts hs
  exact(Pf.nd_iff p).2 ⟨⟨nd,n1,n4⟩,fun x hx=>ih x hx ((pshape_parts hs).2.2.2 x hx)⟩
theorem nd_uw(fr b:Int)(p:Pf):p.nd→∀v,(p.uw fr b v).nd:=by
 induction p using Pf.ind with
 |h p ih=>
  intro hn v
  obtain⟨⟨n,n1,n2⟩,n3⟩:=(Pf.nd_iff p).1 hn
  rw[Pf.uw_eq,Pf.nd_iff]
  refine⟨⟨n,n1,by rw[←n2];exact uws_len _ _ _ _ _⟩,fun x hx=> ?_⟩
  obtain⟨y,hy,v',rfl⟩:=uws_mem hx
  exact ih y hy (n3 y hy) v'
def Pf.uph(p:Pf)(v h:Int):Pf:=(p.uw 0 v 0).hw 0 h 0
theorem uph_full(p:Pf)(v h:Int):(p.uph v h).full≤p.full:=Nat.le_trans (hw_full _ _ _ _) (uw_full _ _ _ _)
def symW(s:Tm)(p:Pf):Pf:=substP (eqF (vT 0) (s.lw 0 1)) p (reflP s)
def transW(s:Tm)(p q:Pf):Pf:=substP (eqF (s.lw 0 1) (vT 0)) q p
def congW(g s:Tm)(p:Pf):Pf:=substP (eqF (apT (g.lw 0 1) (s.lw 0 1)) (apT (g.lw 0 1) (vT 0))) p (reflP (apT g s))
def injW(s:Tm)(p:Pf):Pf:=substP (eqF (s.lw 0 1) (apT predT (vT 0))) p (reflP s)
def eitherW(s t n:Tm):Tm:= .mk 6 0 natT [s,lmT natT (lmT natT (t.lw 0 2)),n]
def exW(s t:Tm):Fm:=eqF (s.lw 0 1) (eitherW (s.lw 0 1) (t.lw 0 1) (vT 0))
def nothW:Nat→Int→Fm→Int→Pf×Int
 |0,_,_,h=>(hypP h,-1)
 |n+1,r,f,h=>
  if r-f.num<0∨f.err≠0 then(hypP h,-1)
  else if f.kind=2 then(.mk 3 0 (.mk 0 []) [] [] [(nothW n (r-f.num) (arg f 0) h).1,(nothW n (nothW n (r-f.num) (arg f 0) h).2 (arg f 1) h).1],(nothW n (nothW n (r-f.num) (arg f 0) h).2 (arg f 1) h).2)
  else if f.kind=3 then(.mk 6 0 (.mk 0 []) [] [arg f 0] [(nothW n (r-f.num) (arg f 1) (h+1)).1],(nothW n (r-f.num) (arg f 1) (h+1)).2)
  else if f.kind=4∨f.kind=6 then(.mk (if f.kind=6 then 12 else 8) 0 f.ty [] [] [(nothW n (r-f.num) (arg f 0) h).1],(nothW n (r-f.num) (arg f 0) h).2)
  else if f.kind=5∨f.kind=7 then
   if putFErr (arg f 0) 0 (dfl f.ty)≠0 then(hypP h,-1)
   else(.mk (if f.kind=7 then 14 else 10) 0 (.mk 0 []) [dfl f.ty] [f] [(nothW n (r-f.num) ((arg f 0).put 0 (dfl f.ty)) h).1],(nothW n (r-f.num) ((arg f 0).put 0 (dfl f.ty)) h).2)
  else(substP (exW (trm f 0) (trm f 1)) (hypP h) (reflP (trm f 0)),r-f.num)
def lftW(a b:Fm)(p x:Pf):Pf:=someP (orA a b) zT (andP (impP (eqF zT zT) (p.uph 0 1)) (impP (notF (eqF zT zT)) (exfP x (impEP (hypP 0) (reflP zT)))))
def rgtW(a b:Fm)(p x:Pf):Pf:=someP (orA a b) (sT zT) (andP (impP (eqF (sT zT) zT) (exfP x (symW (sT zT) (hypP 0)))) (impP (notF (eqF (sT zT) zT)) (p.uph 0 1)))
def knownW(x:Tm)(a b:Fm)(n:Int):Fm:=twoF 2 (twoF 3 (eqF x zT) (a.lw 0 n)) (twoF 3 (notF (eqF x zT)) (b.lw 0 n))
def caseWF(a b c:Fm):Fm:=twoF 3 (knownW (vT 0) a b 2) (c.lw 0 2)
def caseWB(a b:Fm)(q:Pf):Pf:=impP (knownW zT a b 1) (impEP q (impEP (andLP (hypP 0)) (reflP zT)))
def difW:Pf:=impP (eqF nxT zT) (absurdP (symW nxT (hypP 0)))
def caseWS(a b:Fm)(r:Pf):Pf:=impP (knownW nxT a b 2) (impEP r (impEP (andRP (hypP 0)) difW))
def casesW(a b c:Fm)(p q r:Pf):Pf:= .mk 11 0 (.mk 0 []) [] [] [p,impEP (indP (caseWF a b c) (vT 0) (caseWB a b (q.uph 1 2)) (caseWS a b (r.uph 2 3))) (hypP 0)]
def numbersW(f:Fm)(p q:Pf):Pf:= .mk 8 0 natT [] [] [.mk 16 0 (.mk 0 []) [vT 0] [f.lw 1 1] [p.uph 1 0,.mk 9 0 (.mk 0 []) [vT 0] [] [q.uph 2 1]]]
def listsW(f:Fm)(p q:Pf):Pf:= .mk 8 0 listT [] [] [.mk 17 0 (.mk 0 []) [vT 0] [f.lw 1 1] [p.uph 1 0,.mk 9 0 (.mk 0 []) [vT 0] [] [.mk 9 0 (.mk 0 []) [vT 1] [] [q.uph 3 1]]]]
theorem eitherW_full(s t n:Tm):(eitherW s t n).full≤12+s.full+t.full+n.full:=by
 have l3:=lw_full t 0 2
 simp only[eitherW,lmT,Tm.full,Tm.fulls,natT,Ty.size,Ty.sizes]
 omega
theorem exW_full(s t:Tm):(exW s t).full≤20+2*s.full+t.full:=by
 have l1:=lw_full s 0 1
 have l2:=lw_full t 0 1
 have l3:=eitherW_full (s.lw 0 1) (t.lw 0 1) (vT 0)
 have l4:(vT 0).full=2:=by decide
 simp only[exW,eqF,Fm.full,Fm.fulls,Ty.size,Ty.sizes,List.map_cons,List.map_nil,List.sum_cons,List.sum_nil]
 omega
theorem nothW_full:∀(n:Nat) (f:Fm) (r h:Int),f.shape=true→-1≤r→-1≤(nothW n r f h).2∧(nothW n r f h).2≤r∧((nothW n r f h).1.full:Int)≤5000*(r-(nothW n r f h).2)+2:=by
 intro n
 have hypf:∀i:Int,(hypP i).full=2:=fun i=>by simp[hypP,Pf.full,Pf.fulls,Ty.size,Ty.sizes]
 induction n with
 |zero=>intro f r h hs hr;simp only[nothW,hypf];omega
 |succ n ih=>
 intro f r h hs hr
 unfold nothW
 by_cases h1:r-f.num<0∨f.err≠0
 ·rw [if_pos h1];simp only[hypf];omega
 rw[if_neg h1]
 rw[not_or,Decidable.not_not] at h1
 have ef:=h1.2
 have hnum:f.num=f.size:=by unfold Fm.num;rw[if_pos ef]
 have hfp:=f.size_pos
 rw[hnum] at h1 ⊢
 obtain⟨r1,hr1⟩:∃r1,r1=r-f.size:=⟨_,rfl⟩
 rw[←hr1] at h1 ⊢
 rcases fshape_kinds hs with⟨k1,_⟩|⟨k1,_⟩|⟨k1,_,ks⟩
 ·obtain ⟨s,t,rfl⟩:=eq_of hs k1
  rw[if_neg (by rw[k1];omega),if_neg (by rw[k1];omega),if_neg (by rw[k1];omega),if_neg (by rw[k1];omega)]
  have t0:trm (eqF s t) 0=s:=rfl
  have t1:trm (eqF s t) 1=t:=rfl
  rw[t0,t1]
  have ss:=((Tm.err_iff s).1 (term_err ef (by simp[eqF]))).1
  have st:=((Tm.err_iff t).1 (term_err ef (by simp[eqF]))).1
  have h2:=exW_full s t
  have h3:=tfull_le s ss
  have h4:=tfull_le t st
  have h5:=eqF_size s t
  simp only[substP,reflP,pf_full1,no_size,List.map_cons,List.map_nil,List.sum_cons,List.sum_nil,hypf]
  omega
 ·obtain ⟨a,b,e⟩:=two_of hs k1
  generalize f.kind=k at*
  subst e
  obtain⟨ea,eb⟩:=two_errs ef
  have sa:=((Fm.err_iff a).1 ea).1
  have sb:=((Fm.err_iff b).1 eb).1
  have hz:=twoF_size k a b
  rw[arg_two0,arg_two1]
  rcases k1 with rfl|rfl
  ·rw [if_pos rfl]
   obtain⟨a1,a2,a3⟩:=ih a r1 h sa (by omega)
   obtain⟨b1,b2,b3⟩:=ih b (nothW n r1 a h).2 h sb (by omega)
   simp only[pf_full1,no_size,List.map_cons,List.map_nil,List.sum_cons,List.sum_nil]
   omega
  ·rw [if_neg (by omega),if_pos rfl]
   obtain⟨b1,b2,b3⟩:=ih b r1 (h+1) sb (by omega)
   have h3:=ffull_le a sa
   simp only[pf_full1,no_size,List.map_cons,List.map_nil,List.sum_cons,List.sum_nil]
   omega
 ·obtain ⟨a,e⟩:=qu_of hs (by omega)
  generalize f.ty=s at*
  generalize hfk:f.kind=k at*
  have hff:=ffull_le f hs
  subst e
  have ea:=qu_errs ef
  have sa:=((Fm.err_iff a).1 ea).1
  have hz:=quF_size k s a
  have hts:=ty_size ks
  rw[arg_qu,if_neg (by omega),if_neg (by omega)]
  by_cases hq:k=4∨k=6
  ·rw [if_pos hq]
   obtain⟨b1,b2,b3⟩:=ih a r1 h sa (by omega)
   simp only[pf_full1,List.map_cons,List.map_nil,List.sum_cons,List.sum_nil]
   omega
  ·have hq2:k=5∨k=7:=by omega
   rw[if_neg hq,if_pos hq2]
   by_cases hput:putFErr a 0 (dfl s)≠0
   ·rw [if_pos hput];simp only[hypf];omega
   rw[if_neg hput]
   have d2:=(Ty.err_iff s).1 ks
   obtain⟨_,d3,_,d4⟩:=dfl_facts s d2.1 d2.2
   obtain⟨b1,b2,b3⟩:=ih (a.put 0 (dfl s)) r1 h (fput_shape (by omega) d3 sa) (by omega)
   simp only[pf_full1,no_size,List.map_cons,List.map_nil,List.sum_cons,List.sum_nil]
   omega
def sameF(s t:Tm):Fm:=eqF s t
def decF(s t:Tm):Fm:=orA (sameF s t) (notF (sameF s t))
def elP(s t:Tm)(p:Pf):Pf:=lftW (sameF s t) (notF (sameF s t)) p (nothW (notF (sameF s t)).dp 262144 (notF (sameF s t)) 0).1
def erP(s t:Tm)(p:Pf):Pf:=rgtW (sameF s t) (notF (sameF s t)) (impP (sameF s t) p) (nothW (sameF s t).dp 262144 (sameF s t) 0).1
def allIP(s:Ty)(p:Pf):Pf:= .mk 8 0 s [] [] [p]
def allEP(t:Tm)(p:Pf):Pf:= .mk 9 0 (.mk 0 []) [t] [] [p]
def eq1P:Pf:=numbersW (decF zT (vT 0)) (elP zT zT (reflP zT)) (allIP natT (erP zT (sT (vT 0)) (absurdP (hypP 0))))
def sucT:Tm:=lmT natT (sT (vT 0))
def eqEP:Pf:=impP (sameF (vT 1) (vT 0)) (elP (sT (vT 1)) (sT (vT 0)) (congW sucT (vT 1) (hypP 0)))
def eqDP:Pf:=impP (notF (sameF (vT 1) (vT 0))) (erP (sT (vT 1)) (sT (vT 0)) (impEP (hypP 1) (injW (vT 1) (hypP 0))))
def eqBP:Pf:=casesW (sameF (vT 1) (vT 0)) (notF (sameF (vT 1) (vT 0))) (decF (sT (vT 1)) (sT (vT 0))) (allEP (vT 0) (hypP 0)) eqEP eqDP
def eq2P:Pf:=numbersW (decF (sT (vT 1)) (vT 0)) (erP (sT (vT 0)) zT (absurdP (symW (sT (vT 0)) (hypP 0)))) (allIP natT eqBP)
def eqP:Pf:=allIP natT (.mk 16 0 (.mk 0 []) [vT 0] [quF 4 natT (decF (vT 1) (vT 0))] [eq1P,eq2P])
def eqAll:Fm:=quF 4 natT (quF 4 natT (decF (vT 1) (vT 0)))
def Fm.fvl(f:Fm)(b:Int):List Int:=(f.tms b).flatMap fun p=>fre (p.1.vars p.2)
mutual
def Pf.fvl(b:Int):Pf→List Int
 | .mk k _ _ ts fs zs=>ts.flatMap (fun t=>fre (t.vars b))++fs.flatMap (fun f=>f.fvl (b+fvK k))++(Pf.fvls b (vaK k) zs).flatten
def Pf.fvls(b w:Int):List Pf→List (List Int)
 |[]=>[]
 |p::l=>Pf.fvl (if l.length=0 then b+w else b) p::Pf.fvls b w l
end
mutual
def Pf.hyl(y:Int):Pf→List Int
 | .mk k i _ _ _ zs=>(if k=1∧i≥y then [i-y] else [])++(Pf.hyls y (hyK k) zs).flatten
def Pf.hyls(y w:Int):List Pf→List (List Int)
 |[]=>[]
 |p::l=>Pf.hyl (if l.length=0 then y+w else y) p::Pf.hyls y w l
end
mutual
def Pf.lml:Pf→List Int
 | .mk k i _ _ _ zs=>(if k=2 then [i] else [])++(Pf.lmls zs).flatten
def Pf.lmls:List Pf→List (List Int)
 |[]=>[]
 |p::l=>Pf.lml p::Pf.lmls l
end
def Tm.ixr(t:Tm):Prop:=∀b,∀p∈t.vars b,0≤p.1∧p.1<9223372036854775808
def Fm.ixr(f:Fm):Prop:=∀b,∀p∈f.tms b,p.1.ixr
mutual
def Pf.ixr:Pf→Prop
 | .mk _ i _ ts fs zs=>(0≤i∧i<9223372036854775808)∧(∀t∈ts,t.ixr)∧(∀f∈fs,f.ixr)∧Pf.ixrs zs
def Pf.ixrs:List Pf→Prop
 |[]=>True
 |p::l=>Pf.ixr p∧Pf.ixrs l
end
def hypsI(p:Pf):List Int:=sortI (nub [] (p.hyl 0))
def lemsI(p:Pf):List Int:=sortI (nub [] p.lml)
def usesP(p:Pf):List Int:=sortI (nub [] (p.fvl 0))
def usesF(f:Fm):List Int:=sortI (nub [] (f.fvl 0))
mutual
def Pf.cn(most:Int):Pf→Int
 | .mk _ _ h ts fs zs=>Pf.cns most (Fm.cns most (Tm.cns most (1+h.cn (most-1)) ts) fs) zs
def Pf.cns(most n:Int):List Pf→Int
 |[]=>n
 |x::l=>if n≤most then Pf.cns most (n+x.cn (most-n)) l else n
end
theorem Pf.cn_eq(most:Int)(t:Pf):t.cn most=Pf.cns most (Fm.cns most (Tm.cns most (1+t.ty.cn (most-1)) t.terms) t.forms) t.args:=by cases t;simp only[Pf.cn];rfl
theorem Pf.cns_app(most:Int):∀(l l':List Pf) (n:Int),Pf.cns most n (l++l')=Pf.cns most (Pf.cns most n l) l'
 |[],l',n=>by simp only[List.nil_append,Pf.cns]
 |x::l,l',n=>by
  simp only[List.cons_append,Pf.cns]
  by_cases h:n≤most
  ·rw [if_pos h,if_pos h];exact Pf.cns_app most l l' _
  ·rw [if_neg h,if_neg h]
   cases l' with
   |nil=>simp only[Pf.cns]
   |cons y l'=>simp only[Pf.cns];rw[if_neg h]
theorem Pf.cns_stuck{most n:Int}(h:¬n≤most):∀l:List Pf,Pf.cns most n l=n
 |[]=>by simp only[Pf.cns]
 |x::l=>by simp only[Pf.cns];rw[if_neg h]
theorem Pf.cns_take{most n:Int}{l:List Pf}{m:Nat}(hm:m<l.length)(h:Pf.cns most n (l.take m)≤most):Pf.cns most n (l.take (m+1))=Pf.cns most n (l.take m)+l[m].cn (most-Pf.cns most n (l.take m)):=by
 rw[←List.take_append_getElem hm,Pf.cns_app];simp only[Pf.cns];rw[if_pos h]
theorem Pf.cns_end{most n:Int}{l:List Pf}{m:Nat}(h:¬Pf.cns most n (l.take m)≤most):Pf.cns most n l=Pf.cns most n (l.take m):=by
 conv=>lhs;rw[←List.take_append_drop m l,Pf.cns_app,Pf.cns_stuck h]
theorem Fm.cns_bd3(most:Int):∀(l:List Fm) (n:Int),n≤Fm.cns most n l∧(Fm.cns most n l≤n∨Fm.cns most n l≤most+2)∧(Fm.cns most n l≤most→Fm.cns most n l=n+(l.map Fm.full).sum)
 |[],n=>by simp only[Fm.cns];exact⟨by omega,.inl (by omega),fun _=>by simp⟩
 |x::l,n=>by
  simp only[Fm.cns]
  by_cases h:n≤most
  ·rw [if_pos h]
   obtain⟨a1,a2,a3⟩:=x.cn_bd (most-n)
   obtain⟨b1,b2,b3⟩:=Fm.cns_bd3 most l (n+x.cn (most-n))
   refine⟨by omega,by omega,fun hc=> ?_⟩
   rw[b3 hc,a3 (by omega),List.map_cons,List.sum_cons];omega
  ·rw [if_neg h];exact⟨by omega,.inl (by omega),fun hc=>absurd hc h⟩
theorem Pf.cn_bd(t:Pf):∀most:Int,1≤t.cn most∧(t.cn most≤2∨t.cn most≤most+2)∧(t.cn most≤most→t.cn most=t.full):=by
 induction t using Pf.ind with
 |h t ih=>
  intro most
  rw[Pf.cn_eq,Pf.full_eq]
  have key:∀(l:List Pf) (n:Int),(∀x∈l,x∈t.args)→n≤Pf.cns most n l∧(Pf.cns most n l≤n∨Pf.cns most n l≤most+2)∧(Pf.cns most n l≤most→Pf.cns most n l=n+(l.map Pf.full).sum):=by
   intro l
   induction l with
   |nil=>intro n _;simp only[Pf.cns];refine⟨by omega,.inl (by omega),fun _=>by simp⟩
   |cons x l ihl=>
    intro n hx
    simp only[Pf.cns]
    by_cases h:n≤most
    ·rw [if_pos h]
     obtain⟨a1,a2,a3⟩:=ih x (hx x (by simp)) (most-n)
     obtain⟨b1,b2,b3⟩:=ihl (n+x.cn (most-n)) fun y hy=>hx y (by simp[hy])
     refine⟨by omega,by omega,fun hc=> ?_⟩
     rw[b3 hc,a3 (by omega),List.map_cons,List.sum_cons];omega
    ·rw [if_neg h];exact⟨by omega,.inl (by omega),fun hc=>absurd hc h⟩
  obtain⟨c1,c2,c3⟩:=t.ty.cn_bd (most-1)
  obtain⟨d1,d2,d3⟩:=Tm.cns_bd most t.terms (1+t.ty.cn (most-1))
  obtain⟨e1,e2,e3⟩:=Fm.cns_bd3 most t.forms (Tm.cns most (1+t.ty.cn (most-1)) t.terms)
  obtain⟨a1,a2,a3⟩:=key t.args (Fm.cns most (Tm.cns most (1+t.ty.cn (most-1)) t.terms) t.forms) fun _ h=>h
  exact⟨by omega,by omega,fun h=>by rw[a3 h,e3 (by omega),d3 (by omega),c3 (by omega)];omega⟩
end Go.Ab
