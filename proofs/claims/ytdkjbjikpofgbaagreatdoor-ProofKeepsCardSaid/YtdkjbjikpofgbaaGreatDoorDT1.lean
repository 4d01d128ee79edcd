/- A part of the proofs of this seat's statements: D33, D43, D34, D35, D36, D37, D38, D39, D40, D41, D42, D48, D49, D50, D51, D52, D53, D54, D55, D56, D57, D58, D59, D60, D61, D62, D63, D64, D65, D66, D67, D68, D69, D71, D72, D73, D74, D75, D76, D77, D78, D79, D81, D82, D83, D84. It has no conditions of its own. -/
import Derived.Test.YtdkjbjikpofgbaaGreatDoorD1
import Derived.Test.YtdkjbjikpofgbaaGreatDoorAT1
namespace Go.Ab
open Go
set_option linter.all false
theorem Zqt{k:Int}:∀{l:List Int},k∉l→Zaw k l=none
 |[],_=>rfl
 |x::l,h=>by
  simp only[List.mem_cons,not_or] at h
  have h1:¬x=k:=fun e=>h.1 e.symm
  simp only[Zaw,if_neg h1,Zqt h.2,Option.map_none]
theorem Zr5{k:Int}:∀{l:List Int},k∈l→∃i,Zaw k l=some i
 |[],h=>by cases h
 |x::l,h=>by
  by_cases hx:x=k
  ·exact ⟨0,by simp[Zaw,hx]⟩
  ·obtain ⟨i,hi⟩:=Zr5 (l:=l) (by rcases List.mem_cons.1 h with h|h;exact absurd h.symm hx;exact h)
   exact⟨i+1,by simp[Zaw,hx,hi]⟩
theorem Zjd(k:Int)(ks:List Int):ve k ks=if k∈ks then ks else ks++[k]:=by
 by_cases h:k∈ks
 ·obtain ⟨i,hi⟩:=Zr5 h
  rw[if_pos h,ve,hi]
 ·rw [if_neg h,ve,Zqt h]
theorem Zsb{k x:Int}{ks:List Int}:x∈ve k ks↔x∈ks∨x=k:=by
 rw[Zjd]
 split
 ·rename_i h
  constructor
  ·exact Or.inl
  ·rintro (h1|rfl)
   ·exact h1
   ·exact h
 ·simp
theorem Zmt{k:Int}{ks:List Int}(h:ks.Nodup):(ve k ks).Nodup:=by
 rw[Zjd]
 split
 ·exact h
 ·rename_i h1
  exact List.nodup_append.2 ⟨h,by simp,fun a ha b hb e=>by simp at hb;subst hb;subst e;exact h1 ha⟩
theorem uq(k:Int)(ks:List Int)(b:Bool):Zcz k ks (List.replicate ks.length b) b=List.replicate (ve k ks).length b:=by
 unfold Zcz ve
 split
 ·rename_i i hi
  apply List.ext_getElem?
  intro j
  rw[List.getElem?_set]
  split
  ·rename_i e;subst e
   have:=(uo hi).2
   simp[List.getElem?_replicate,this]
  ·rfl
 ·rw [List.length_append,←List.replicate_append_replicate];rfl
def nub(acc l:List Int):List Int:=l.foldl (fun ks k=>ve k ks) acc
theorem Zeu(acc l l':List Int):nub acc (l++l')=nub (nub acc l) l':=List.foldl_append
theorem Zbd(acc:List Int):nub acc []=acc:=rfl
theorem Zjr(acc:List Int)(k:Int):nub acc [k]=ve k acc:=rfl
theorem mem_nub{x:Int}:∀{l acc:List Int},x∈nub acc l↔x∈acc∨x∈l
 |[],acc=>by simp[nub]
 |k::l,acc=>by
  show x∈nub (ve k acc) l↔_
  rw[mem_nub,Zsb,List.mem_cons,or_assoc]
theorem vw:∀{l acc:List Int},acc.Nodup→(nub acc l).Nodup
 |[],acc,h=>h
 |k::l,acc,h=>vw (l:=l) (Zmt h)
theorem Zb7:∀(l acc:List Int),(nub acc l).length≤acc.length+l.length
 |[],acc=>by simp[nub]
 |k::l,acc=>by
  have h1:=Zb7 l (ve k acc)
  have h2:(ve k acc).length≤acc.length+1:=by rw[Zjd];split<;>simp
  show(nub (ve k acc) l).length≤_
  rw[List.length_cons];omega
def fre(l:List (Int×Int)):List Int:=l.filterMap fun p=>if p.2≤p.1 then some (p.1-p.2) else none
theorem Zm2(l l':List (Int×Int)):fre (l++l')=fre l++fre l':=List.filterMap_append
theorem Zt7:fre []=[]:=rfl
theorem Zs7(i b:Int):fre [(i,b)]=if b≤i then [i-b] else []:=by
 by_cases h:b≤i
 ·simp [fre,h]
 ·simp [fre,h]
theorem Zyx(l:List (Int×Int)):(fre l).length≤l.length:=List.length_filterMap_le _ _
theorem Zzo{x:Int}{l:List (Int×Int)}:x∈fre l↔0≤x∧∃p∈l,p.1-p.2=x:=by
 simp only[fre,List.mem_filterMap]
 constructor
 ·rintro ⟨p,hp,h⟩
  split at h
  ·cases h;exact⟨by omega,p,hp,rfl⟩
  ·cases h
 ·rintro ⟨h0,p,hp,h⟩
  exact⟨p,hp,by rw[if_pos (by omega),h]⟩
theorem mem_cnt{x:Int}:∀{l:List (Int×Int)},(∃p∈l,p.1-p.2=x)↔cnt x l≠0
 |[]=>by simp[cnt]
 |p::l=>by
  have ih:=mem_cnt (x:=x) (l:=l)
  rw[show p::l=[p]++l from rfl,vm,Zbs]
  constructor
  ·rintro ⟨q,hq,h⟩
   rcases List.mem_append.1 hq with h1|h1
   ·simp at h1;subst h1;rw[if_pos h];omega
   ·have:=ih.1 ⟨q,h1,h⟩;omega
  ·intro h
   by_cases h1:p.1-p.2=x
   ·exact ⟨p,by simp,h1⟩
   ·rw [if_neg h1] at h
    obtain⟨q,hq,h2⟩:=ih.2 (by omega)
    exact⟨q,by simp[hq],h2⟩
def Zxy(t:Tm):List Int:=nub [] (fre (t.vars 0))
def Zpn(t:Tm):List Int:=yj (Zxy t)
theorem Zh4(t:Tm):(Zxy t).Nodup:=vw List.nodup_nil
theorem Zvo{t:Tm}{x:Int}:x∈Zxy t↔0≤x∧cnt x (t.vars 0)≠0:=by rw[Zxy,mem_nub,Zzo,mem_cnt];simp
theorem Zv1(t:Tm):(Zxy t).length≤t.size:=by
 have h1:=Zb7 (fre (t.vars 0)) []
 have h2:=Zyx (t.vars 0)
 have h3:=t.vars_len 0
 simp only[Zxy,List.length_nil] at*;omega
theorem x6(l:List Int):(yj l).Perm l:=List.mergeSort_perm l _
theorem Zaf(l:List Int):(yj l).Pairwise (·≤·):=by
 have h:=List.pairwise_mergeSort (le:=fun x y:Int=>decide (x≤y)) (fun a b c h1 h2=>by simp only[decide_eq_true_eq] at*;omega) (fun a b=>by simp only[Bool.or_eq_true,decide_eq_true_eq];omega) l
 exact h.imp fun h=>by simpa using h
theorem Zk3{l l':List Int}(hp:l.Perm l')(h:l.Pairwise (·≤·))(h':l'.Pairwise (·≤·)):l=l':=
 hp.eq_of_pairwise (le:=(·≤·)) (fun a b _ _ h1 h2=>by omega) h h'
theorem Zjt{l l':List Int}(hp:l.Perm l'):yj l=yj l':=
 Zk3 ((x6 l).trans (hp.trans (x6 l').symm)) (Zaf l) (Zaf l')
theorem mem_usesI{t:Tm}{x:Int}:x∈Zpn t↔0≤x∧cnt x (t.vars 0)≠0:=by rw[Zpn,(x6 _).mem_iff,Zvo]
theorem Zmx(t:Tm):(Zpn t).Nodup:=(x6 _).nodup_iff.2 (Zh4 t)
def shI(fr by_ v:Int):Int:=if v≥fr then v+by_ else v
def Zd8(l:List Int)(n:Int)(i:Nat):List Int:=l.take i++(l.getD i n::l.drop i)
def Zzb(l:List Int)(n:Int)(i:Nat):List Int:=l.take i++n::l.drop i
theorem Zxe(l:List Int)(n:Int):Zd8 l n l.length=l++[n]:=by simp[Zd8]
theorem Zv8{l:List Int}{n:Int}{i:Nat}(h:i≤l.length):(Zd8 l n i).length=l.length+1:=by simp[Zd8];omega
theorem Zyz{l:List Int}{n:Int}{i:Nat}(h:i<l.length)(h':i<(Zd8 l n (i+1)).length):(Zd8 l n (i+1))[i]=l[i]:=by
 simp only[Zd8]
 rw[List.getElem_append_left (by simp;omega),List.getElem_take]
theorem Zr7{l:List Int}{n:Int}{i:Nat}(h:i<l.length):(Zd8 l n (i+1)).set (i+1) l[i]=Zd8 l n i:=by
 have h1:(l.take (i+1)).length=i+1:=by simp;omega
 simp only[Zd8]
 have e:l.take (i+1)=l.take i++[l[i]]:=by rw[List.take_succ,List.getElem?_eq_getElem h];rfl
 rw[List.set_append_right (h:=by omega),h1,Nat.sub_self,List.set_cons_zero,e,List.append_assoc,List.singleton_append,←List.drop_eq_getElem_cons h]
 congr 2
 rw[List.getD_eq_getElem?_getD,List.getElem?_eq_getElem h];rfl
theorem Zry{l:List Int}{n:Int}{i:Nat}(h:i≤l.length):(Zd8 l n i).set i n=Zzb l n i:=by
 have h1:(l.take i).length=i:=by simp;omega
 simp only[Zd8,Zzb]
 rw[List.set_append_right (h:=by omega),h1,Nat.sub_self,List.set_cons_zero]
theorem Zr3(l:List Int)(n:Int)(i:Nat):(Zzb l n i).Perm (n::l):=by
 have h1:(Zzb l n i).Perm (n::(l.take i++l.drop i)):=List.perm_middle
 rwa [List.take_append_drop] at h1
theorem Zm4{l:List Int}{n:Int}{i:Nat}(hs:l.Pairwise (·≤·))(h:∀x∈l.drop i,n<x)(h':∀(hi:0<i) (hl:i-1<l.length),l[i-1]≤n)(hil:i≤l.length):(Zzb l n i).Pairwise (·≤·):=by
 have hs':=hs
 rw[←List.take_append_drop i l,List.pairwise_append] at hs
 obtain⟨h1,h2,h3⟩:=hs
 have ht:∀x∈l.take i,x≤n:=fun x hx=>by
  obtain⟨j,hj,hx2⟩:=List.mem_iff_getElem.1 hx
  have hj2:j<i:=by simp at hj;omega
  rw[List.getElem_take] at hx2
  have h4:=h' (by omega) (by omega)
  rcases Nat.lt_or_ge j (i-1) with h5|h5
  ·have:=List.pairwise_iff_getElem.1 hs' j (i-1) (by omega) (by omega) h5
   omega
  ·have h6:j=i-1:=by omega
   subst h6;omega
 rw[Zzb,List.pairwise_append]
 refine⟨h1,List.pairwise_cons.2 ⟨fun x hx=>by have:=h x hx;omega,h2⟩,fun x hx y hy=> ?_⟩
 rcases List.mem_cons.1 hy with rfl|hy
 ·exact ht x hx
 ·exact h3 x hx y hy
theorem Zti{d:List Int}{n:Int}{i:Nat}(h:∀x∈(yj d).drop i,n<x)(h':∀(hi:0<i) (hl:i-1<(yj d).length),(yj d)[i-1]≤n)(hil:i≤(yj d).length):Zzb (yj d) n i=yj (d++[n]):=by
 refine Zk3 ?_ (Zm4 (Zaf d) h h' hil) (Zaf _)
 refine((Zr3 _ _ _).trans ((x6 d).cons n)).trans (?_:(n::d).Perm _)
 exact((List.perm_append_comm (l₁:=[n]) (l₂:=d)).trans (x6 _).symm)
theorem Zdj(d:List Int):(yj d).length=d.length:=(x6 d).length_eq
theorem Zda:yj []=[]:=List.mergeSort_nil
theorem Zke:∀{l ks:List Int},l.Nodup→(∀x∈l,x∈ks)→l.length≤ks.length
 |[],_,_,_=>Nat.zero_le _
 |x::l,ks,hn,h=>by
  obtain⟨h1,h2⟩:=List.nodup_cons.1 hn
  have h3:=h x (by simp)
  have h4:=Zke (l:=l) (ks:=ks.erase x) h2 fun y hy=>(List.mem_erase_of_ne (fun e:y=x=>h1 (by rw[←e];exact hy))).2 (h y (by simp[hy]))
  rw[List.length_erase_of_mem h3] at h4
  have:0<ks.length:=List.length_pos_of_mem h3
  simp only[List.length_cons];omega
theorem Zw1{t:Tm}(hC:∀p∈t.vars 0,p.1≤1000000):t.near=true:=List.all_eq_true.2 fun p hp=>by
 have:=hC p hp
 simp only[decide_eq_true_eq];omega
def Yd0(t:Tm)(a:Int):Int:=if t.err≠0 then t.err else if ¬(0≤a∧a≤4096) then 1 else if 0<cnt a (t.vars 0) then 6 else 0
def Ycd(l:List Int):List Int:=(l.filter fun v=>decide (v≠0)).map (·-1)
def wantI(a b:List Int):List Int:=nub (nub [] (Ycd a)) (if 0∈a then b else [])
def hasM(a:List Int)(m:Nat):Bool:=decide (0∈a.take m)
def wM(a:List Int)(m:Nat):List Int:=nub [] (Ycd (a.take m))
def wN(a b:List Int)(h:Bool)(m:Nat):List Int:=nub (wM a a.length) (if h=true then b.take m else [])
def Yd1(f:Fm):List Int:=nub [] (fre (Yem (f.tms 0)))
def usesFI(f:Fm):List Int:=yj (Yd1 f)
def Fm.lft(f:Fm)(fr by_:Int):Fm:=f.re (fun b t=>t.re (zq (fr+b) by_) 0) 0
def Zfs(f:Fm)(fr by_:Int):Int:=if f.err≠0 then f.err else if ¬(0≤fr∧fr≤4096)∨¬(0≤by_∧by_≤4096)∨f.near=false then 1 else 0
def Ya4(f:Fm)(a:Int):Int:=if f.err≠0 then f.err else if ¬(0≤a∧a≤4096) then 1 else if 0<wu a (f.tms 0) then 6 else 0
def falseF:Fm:=eqF (.mk 4 0 (.mk 0 []) []) (.mk 5 0 (.mk 0 []) [.mk 4 0 (.mk 0 []) []])
def Zok(f:Fm):Fm:= .mk 3 (.mk 0 []) [] [f,falseF]
def Zwf:Fm:=eqF (.mk 1 0 (.mk 0 []) []) (.mk 4 0 (.mk 0 []) [])
def orF(a b:Fm):Fm:= .mk 5 natT [] [.mk 2 (.mk 0 []) [] [.mk 3 (.mk 0 []) [] [Zwf,a],.mk 3 (.mk 0 []) [] [.mk 3 (.mk 0 []) [] [Zwf,falseF],b]]]
theorem Zca{f:Fm}(h:f.shape=true):
 (f.kind=1∧f.args=[])∨((f.kind=2∨f.kind=3)∧f.terms=[])∨((f.kind=4∨f.kind=5∨f.kind=6∨f.kind=7)∧f.terms=[]∧f.ty.err=0):=by
 rw[Fm.shape_eq,Bool.and_eq_true,Bool.and_eq_true] at h
 have h1:=h.1.1
 unfold Fm.head at h1
 by_cases h2:f.kind=1
 ·rw [if_pos h2] at h1
  simp only[Bool.and_eq_true,beq_iff_eq,List.length_eq_zero_iff] at h1
  exact .inl ⟨h2,h1.2⟩
 rw[if_neg h2] at h1
 by_cases h3:f.kind=2∨f.kind=3
 ·rw [if_pos h3] at h1
  simp only[Bool.and_eq_true,beq_iff_eq,List.length_eq_zero_iff] at h1
  exact .inr (.inl ⟨h3,h1.1.2⟩)
 rw[if_neg h3] at h1
 by_cases h4:f.kind=4∨f.kind=5∨f.kind=6∨f.kind=7
 ·rw [if_pos h4] at h1
  simp only[Bool.and_eq_true,beq_iff_eq,List.length_eq_zero_iff] at h1
  refine .inr (.inr ⟨h4,h1.1.2,(Ty.err_iff f.ty).2 ?_⟩)
  have:=h1.1.1
  simp only[Ty.ok,Bool.and_eq_true,decide_eq_true_eq] at this
  exact this
 rw[if_neg h4] at h1
 cases h1
theorem Zfc{α:Type}{f g:α→Nat}{l:List α}(h:∀x∈l,f x=g x):(l.map f).sum=(l.map g).sum:=by rw[List.map_congr_left h]
theorem Zxi{G:Int→Tm→Tm}(hG:∀b t,t.shape=true→(G b t).shape=true∧(G b t).size=t.size∧(G b t).full=t.full)(f:Fm):∀b,f.shape=true→(f.re G b).shape=true∧(f.re G b).size=f.size∧(f.re G b).full=f.full:=by
 induction f using Fm.ind with
 |h f ih=>
  intro b hf
  have h0:=hf
  rw[Fm.shape_eq,Bool.and_eq_true,Bool.and_eq_true] at h0
  obtain⟨⟨h1,h2⟩,h3⟩:=h0
  rw[Fm.re_eq]
  refine⟨?_,?_,?_⟩
  ·rw [Fm.shape_eq,Bool.and_eq_true,Bool.and_eq_true]
   refine⟨⟨?_,?_⟩,?_⟩
   ·simp only[Fm.head,Fm.kind_mk,Fm.ty_mk,Fm.terms_mk,Fm.args_mk,List.length_map] at h1 ⊢
    exact h1
   ·rw [Fm.terms_mk,List.all_eq_true]
    intro y hy
    obtain⟨x,hx,rfl⟩:=List.mem_map.1 hy
    exact(hG b x (List.all_eq_true.1 h2 x hx)).1
   ·rw [Fm.args_mk,List.all_eq_true]
    intro y hy
    obtain⟨x,hx,rfl⟩:=List.mem_map.1 hy
    exact(ih x hx _ (List.all_eq_true.1 h3 x hx)).1
  ·rw [Fm.size_eq,f.size_eq]
   simp only[Fm.terms_mk,Fm.args_mk,List.map_map]
   rw[Zfc (f:=Tm.size∘G b) (g:=Tm.size) fun x hx=>(hG b x (List.all_eq_true.1 h2 x hx)).2.1,Zfc (f:=Fm.size∘Fm.re G (upF f.kind b)) (g:=Fm.size) fun x hx=>(ih x hx _ (List.all_eq_true.1 h3 x hx)).2.1]
  ·rw [Fm.full_eq,f.full_eq]
   simp only[Fm.terms_mk,Fm.args_mk,Fm.ty_mk,List.map_map]
   rw[Zfc (f:=Tm.full∘G b) (g:=Tm.full) fun x hx=>(hG b x (List.all_eq_true.1 h2 x hx)).2.2,Zfc (f:=Fm.full∘Fm.re G (upF f.kind b)) (g:=Fm.full) fun x hx=>(ih x hx _ (List.all_eq_true.1 h3 x hx)).2.2]
theorem Zbp{f:Fm}(hf:f.shape=true){fr by_:Int}(hb:0≤by_):(f.lft fr by_).shape=true∧(f.lft fr by_).size=f.size∧(f.lft fr by_).full=f.full:=
 Zxi (fun b t ht=>⟨Zel 0 ht hb,Zge _ _ t 0 ht,Zaa _ _ t 0 ht⟩) f 0 hf
theorem Zu8(g m:List Ty)(fr:Int)(f:Fm):∀(h:List Ty) (b:Int),(h.length:Int)=fr+b→f.shape=true→f.okT (g++h)→
 (f.re (fun b t=>t.re (zq (fr+b) m.length) 0) b).okT (g++m++h):=by
 induction f using Fm.ind with
 |h f ih=>
  intro h b hb hf hok
  rw[Fm.okT_iff] at hok
  rw[Fm.re_eq,Fm.okT_iff]
  simp only[Fm.terms_mk,Fm.args_mk]
  refine⟨fun y hy=> ?_,fun y hy=> ?_⟩
  ·obtain ⟨x,hx,rfl⟩:=List.mem_map.1 hy
   rw[Zi8 x g m h (fr+b) 0 (yd hf hx) (by omega)]
   exact hok.1 x hx
  ·obtain ⟨x,hx,rfl⟩:=List.mem_map.1 hy
   have h1:=hok.2 x hx
   by_cases hq:xi f.kind=true
   ·rw [Zdt hq] at h1
    rw[show ∀ts fs,Ze7 (g++m++h) (Fm.mk f.kind f.ty ts fs)=g++m++h++[f.ty] from fun ts fs=>Zdt (f:=Fm.mk f.kind f.ty ts fs) hq]
    have e:upF f.kind b=b+1:=if_pos hq
    rw[e,List.append_assoc (g++m)]
    rw[List.append_assoc] at h1
    exact ih x hx (h++[f.ty]) (b+1) (by simp;omega) (zo hf hx) h1
   ·rw [Zdn hq] at h1
    rw[show ∀ts fs,Ze7 (g++m++h) (Fm.mk f.kind f.ty ts fs)=g++m++h from fun ts fs=>Zdn (f:=Fm.mk f.kind f.ty ts fs) hq]
    have e:upF f.kind b=b:=if_neg hq
    rw[e]
    exact ih x hx h b hb (zo hf hx) h1
theorem Zog{f:Fm}{C:Int}(hC:C≤1000000)(h:∀p∈f.tms 0,∀q∈p.1.vars 0,0≤q.1∧q.1≤C):f.near=true:=
 List.all_eq_true.2 fun p hp=>Zw1 fun q hq=>by have:=h p hp q hq;omega
theorem Zf4{f:Fm}(he:f.err=0){fr by_:Int}(hb:0≤by_):(f.lft fr by_).err=0:=by
 have h1:=(Fm.err_iff f).1 he
 obtain⟨h2,h3,_⟩:=Zbp h1.1 (fr:=fr) hb
 exact(Fm.err_iff _).2 ⟨h2,by rw[h3];exact h1.2⟩
theorem Zzh{f:Fm}(h:FmOk 2 f):f.err=0:=(Fm.err_iff f).2 ⟨h.1,by have:=h.2.1;omega⟩
def exF:Fm:= .mk 4 natT [] [.mk 1 (.mk 0 []) [vT 0,vT 1] []]
end Go.Ab
namespace Go.Ab
set_option linter.all false
theorem Zfk{k i:Int}{th T:Ty}{xs:List Tm}{g:List Ty}(k1:k≠1)(k2:k≠2)(h:(Tm.mk k i th xs).inf g=(T,0)):
 (∀x∈xs,x.inf g=((x.inf g).1,0))∧wq k th (xs.map fun x=>(x.inf g).1)=(T,0):=by
 obtain⟨h1,h2⟩:=w7 (t:=Tm.mk k i th xs) k1 k2 h
 exact⟨fun x hx=>by rw[←h1 x hx],h2⟩
theorem Zrs{i:Int}{th T:Ty}{x f n:Tm}{g:List Ty}(h:(Tm.mk 6 i th [x,f,n]).inf g=(T,0)):
 T=th∧x.inf g=(th,0)∧f.inf g=(yw natT (yw th th),0)∧n.inf g=(natT,0):=by
 obtain⟨h1,h2⟩:=Zfk (by decide) (by decide) h
 have hx:=h1 x (by simp)
 have hf:=h1 f (by simp)
 have hn:=h1 n (by simp)
 simp only[wq,List.map_cons,List.map_nil,Zb2,Zd4,Zla,reduceIte,Int.reduceEq] at h2
 by_cases hc:¬(x.inf g).1=th∨¬(f.inf g).1=yw natT (yw th th)∨¬(n.inf g).1=natT
 ·rw [if_pos hc] at h2;cases h2
 ·rw [if_neg hc] at h2
  have e:=congrArg Prod.fst h2
  simp only[not_or,Decidable.not_not] at hc
  exact⟨e.symm,by rw[hx,hc.1],by rw[hf,hc.2.1],by rw[hn,hc.2.2]⟩
theorem Zn9{i:Int}{th T:Ty}{x f n:Tm}{g:List Ty}(h:(Tm.mk 9 i th [x,f,n]).inf g=(T,0)):
 T=th∧x.inf g=(th,0)∧f.inf g=(yw natT (yw listT (yw th th)),0)∧n.inf g=(listT,0):=by
 obtain⟨h1,h2⟩:=Zfk (by decide) (by decide) h
 have hx:=h1 x (by simp)
 have hf:=h1 f (by simp)
 have hn:=h1 n (by simp)
 simp only[wq,List.map_cons,List.map_nil,Zb2,Zd4,Zla,reduceIte,Int.reduceEq] at h2
 by_cases hc:¬(x.inf g).1=th∨¬(f.inf g).1=yw natT (yw listT (yw th th))∨¬(n.inf g).1=listT
 ·rw [if_pos hc] at h2;cases h2
 ·rw [if_neg hc] at h2
  have e:=congrArg Prod.fst h2
  simp only[not_or,Decidable.not_not] at hc
  exact⟨e.symm,by rw[hx,hc.1],by rw[hf,hc.2.1],by rw[hn,hc.2.2]⟩
theorem Zwn{i:Int}{th T:Ty}{x:Tm}{g:List Ty}(h:(Tm.mk 5 i th [x]).inf g=(T,0)):T=natT∧x.inf g=(natT,0):=by
 obtain⟨h1,h2⟩:=Zfk (by decide) (by decide) h
 have hx:=h1 x (by simp)
 simp only[wq,List.map_cons,List.map_nil,Zb2,reduceIte,Int.reduceEq] at h2
 by_cases hc:¬(x.inf g).1=natT
 ·rw [if_pos hc] at h2;cases h2
 ·rw [if_neg hc] at h2
  have e:=congrArg Prod.fst h2
  exact⟨e.symm,by rw[hx,Decidable.not_not.1 hc]⟩
theorem Zu0{i:Int}{th T:Ty}{x y:Tm}{g:List Ty}(h:(Tm.mk 8 i th [x,y]).inf g=(T,0)):T=listT∧x.inf g=(natT,0)∧y.inf g=(listT,0):=by
 obtain⟨h1,h2⟩:=Zfk (by decide) (by decide) h
 have hx:=h1 x (by simp)
 have hy:=h1 y (by simp)
 simp only[wq,List.map_cons,List.map_nil,Zb2,Zd4,reduceIte,Int.reduceEq] at h2
 by_cases hc:¬(x.inf g).1=natT∨¬(y.inf g).1=listT
 ·rw [if_pos hc] at h2;cases h2
 ·rw [if_neg hc] at h2
  have e:=congrArg Prod.fst h2
  simp only[not_or,Decidable.not_not] at hc
  exact⟨e.symm,by rw[hx,hc.1],by rw[hy,hc.2]⟩
theorem Zep{f x:Tm}{a b:Ty}{g:List Ty}(hf:f.inf g=(yw a b,0))(hx:x.inf g=(a,0)):(apT f x).inf g=(b,0):=Zbt hf hx
theorem Zr8{th:Ty}{x f n:Tm}{g:List Ty}(hx:x.inf g=(th,0))(hf:f.inf g=(yw natT (yw th th),0))(hn:n.inf g=(natT,0))(i:Int):(Tm.mk 6 i th [x,f,n]).inf g=(th,0):=by
 rw[Tm.inf_eq]
 simp[Tm.infs,hx,hf,hn,wq]
theorem Zp8{th:Ty}{x f n:Tm}{g:List Ty}(hx:x.inf g=(th,0))(hf:f.inf g=(yw natT (yw listT (yw th th)),0))(hn:n.inf g=(listT,0))(i:Int):(Tm.mk 9 i th [x,f,n]).inf g=(th,0):=by
 rw[Tm.inf_eq]
 simp[Tm.infs,hx,hf,hn,wq]
theorem Ya5{t u:Tm}(hv:RV t u){g:List Ty}{T:Ty}(hs:t.shape=true)(h:t.inf g=(T,0)):u.inf g=(T,0):=by
 cases hv with
 |beta i th j s b a=>
  have hb:b.shape=true:=zd (zd hs (.mk 2 j s [b]) (by simp)) b (by simp)
  have ha:a.shape=true:=zd hs a (by simp)
  obtain⟨h1,h2⟩:=w7 (by simp) (by simp) h
  have hf:(Tm.mk 2 j s [b]).inf g=(((Tm.mk 2 j s [b]).inf g).1,0):=by rw[←h1 (.mk 2 j s [b]) (by simp)]
  obtain⟨h3,h4⟩:=Zbi hf
  have ha0:=h1 a (by simp)
  simp only[Tm.kind_mk,Tm.ty_mk,Tm.args_mk,List.map_cons,List.map_nil,h4] at h2
  have h5:s=(a.inf g).1∧(b.inf (g++[s])).1=T:=by
   simp only[wq,at0,List.getD_cons_zero,List.getD_cons_succ,Zle,Zli] at h2
   by_cases h6:s=(a.inf g).1
   ·refine ⟨h6,?_⟩
    simp[h6] at h2
    rw[h6];exact h2
   ·simp [h6] at h2
  have hσ:a.inf g=(s,0):=by rw[h5.1,←ha0]
  have hp:=Zmi b a g [] s 0 0 hb ha rfl hσ
  rw[List.append_nil,List.append_nil] at hp
  rw[hp,←h5.2,←h3]
 |rz i th x f j s=>obtain⟨rfl,h1,_⟩:=Zrs h;exact h1
 |fz i th x f j s=>obtain⟨rfl,h1,_⟩:=Zn9 h;exact h1
 |rs i th x f j s n=>
  obtain⟨rfl,h1,h2,h3⟩:=Zrs h
  obtain⟨_,h4⟩:=Zwn h3
  exact Zep (Zep h2 h4) (Zr8 h1 h2 h4 0)
 |fs i th x f j s n l=>
  obtain⟨rfl,h1,h2,h3⟩:=Zn9 h
  obtain⟨_,h4,h5⟩:=Zu0 h3
  exact Zep (Zep (Zep h2 h4) h5) (Zp8 h1 h2 h5 0)
 |p1 i th j s _ y=>
  obtain⟨h1,h2⟩:=w7 (by simp) (by simp) h
  have hf:(Tm.mk 10 j s [u,y]).inf g=(((Tm.mk 10 j s [u,y]).inf g).1,0):=by rw[←h1 (.mk 10 j s [u,y]) (by simp)]
  obtain⟨h3,h4,h5⟩:=Zi3 hf
  simp only[Tm.kind_mk,Tm.ty_mk,Tm.args_mk,List.map_cons,List.map_nil,h5] at h2
  simp[wq,at0] at h2
  rw[←h2,←h3]
 |p2 i th j s y _=>
  obtain⟨h1,h2⟩:=w7 (by simp) (by simp) h
  have hf:(Tm.mk 10 j s [y,u]).inf g=(((Tm.mk 10 j s [y,u]).inf g).1,0):=by rw[←h1 (.mk 10 j s [y,u]) (by simp)]
  obtain⟨h3,h4,h5⟩:=Zi3 hf
  simp only[Tm.kind_mk,Tm.ty_mk,Tm.args_mk,List.map_cons,List.map_nil,h5] at h2
  simp[wq,at0] at h2
  rw[←h2,←h4]
theorem Ybz(room:Int)(t:Tm):∀(g:List Ty) (T:Ty) (u:Tm),t.shape=true→t.inf g=(T,0)→nxR room t=some (u,true)→u.inf g=(T,0):=by
 induction t using Tm.ind with
 |h t ih=>
  intro g T u hs h hn
  rw[Zbl] at hn
  by_cases hr:vd t=true
  ·rw [if_pos hr] at hn
   split at hn
   ·cases hn
   ·cases hn
    exact Ya5 (Zes hs hr) hs h
  ·rw [if_neg hr,Option.map_eq_some_iff] at hn
   obtain⟨q,h1,h2⟩:=hn
   obtain⟨m,hm,v,h3,h4⟩:=Zdh _ _ _ h1
   have e2:=congrArg Prod.snd h2
   have e1:=congrArg Prod.fst h2
   simp only at e1 e2
   rw[e2] at h3
   rw[←e1,h4]
   have hargs:=zd hs
   have hx:=hargs _ (List.getElem_mem hm)
   have hmem:=List.getElem_mem hm
   by_cases k1:t.kind=1
   ·exact absurd (um hs k1) (fun hh=>by rw[hh] at hm;simp at hm)
   ·have key:∀g' T',(t.args[m]).inf g'=(T',0)→v.inf g'=(T',0):=fun g' T' hi=>ih _ hmem g' T' v hx hi h3
    by_cases k2:t.kind=2
    ·obtain ⟨i,th,b,rfl,hb⟩:=Zao hs k2 rfl
     obtain⟨h5,h6⟩:=Zbi h
     have hm0:m=0:=by simp at hm;omega
     subst hm0
     simp only[Tm.args_mk,List.getElem_cons_zero] at*
     have q1:=key (g++[th]) (b.inf (g++[th])).1 (by rw[←h5])
     have:v.inf (g++[th])=b.inf (g++[th]):=by rw[q1,←h5]
     rw[←h]
     simp only[List.set_cons_zero,Tm.kind_mk,Tm.ty_mk,Tm.index_mk]
     exact Zlb this
    ·obtain ⟨h5,h6⟩:=w7 k1 k2 h
     have h7:=h5 _ hmem
     have q1:=key g (t.args[m].inf g).1 (by rw[←h7])
     have hi:v.inf g=(t.args[m]).inf g:=by rw[q1,←h7]
     rw[←h,Tm.inf_eq g (Tm.mk t.kind t.index t.ty (t.args.set m v)),if_neg (show ¬(Tm.mk t.kind t.index t.ty (t.args.set m v)).kind=1 from k1),if_neg (show ¬(Tm.mk t.kind t.index t.ty (t.args.set m v)).kind=2 from k2),t.inf_eq,if_neg k1,if_neg k2]
     show(if(Tm.infs g (t.args.set m v)).2≠0 then(noTy,(Tm.infs g (t.args.set m v)).2) else wq t.kind t.ty (Tm.infs g (t.args.set m v)).1)=_
     rw[Zfi g v t.args m hm hi]
theorem Zrx:∀(k:Nat) (t:Tm) (n:Nat) (g:List Ty) (T:Ty),t.err=0→t.inf g=(T,0)→(nrm k t n).2.2=0→(nrm k t n).1.inf g=(T,0)
 |0,t,n,g,T,he,hi,h=>by
  simp only[nrm] at h ⊢
  cases hx:nxR (4096-t.size) t with
  |none=>exact hi
  |some p=>rw[hx] at h;cases h
 |k+1,t,n,g,T,he,hi,h=>by
  simp only[nrm] at h ⊢
  cases hx:nxR (4096-t.size) t with
  |none=>exact hi
  |some p=>
   obtain⟨x,f⟩:=p
   rw[hx] at h
   cases f with
   |false=>cases h
   |true=>exact Zrx k x (n+1) g T (Zt6 he hx) (Ybz _ t g T x (w6 he).1 hi hx) h
theorem Zxh{t:Tm}{steps:Int}(h:(xm t steps).2.2=0):t.err=0∧(xm t steps).1.err=0∧Pst t (xm t steps).1∧nf (xm t steps).1∧∀g T,t.inf g=(T,0)→(xm t steps).1.inf g=(T,0):=by
 unfold xm at h ⊢
 by_cases h1:t.err≠0
 ·rw [if_pos h1] at h;exact absurd h h1
 ·rw [if_neg h1] at h ⊢
  have h1':t.err=0:=Decidable.not_not.1 h1
  by_cases h2:¬(0≤steps∧steps≤65536)∨t.near=false
  ·rw [if_pos h2] at h;cases h
  ·rw [if_neg h2] at h ⊢
   obtain⟨a,b,c⟩:=Zs9 _ t 0 h1' h
   exact⟨h1',c,a,b,fun g T hi=>Zrx _ t 0 g T h1' hi h⟩
end Go.Ab
namespace Go.Ab
open Go
set_option linter.all false
structure Ck where
 lems:List Fm
 tys:List Ty
 hyps:List Fm
def Ck.view(c:Ck):List V:=[.s .fm c.lems,.s .ty c.tys,.s .fm c.hyps]
def Ck.below(c:Ck)(l:List Ty):Ck:=⟨c.lems,c.tys++l,c.hyps.map fun f=>f.lft 0 l.length⟩
def Ck.with_(c:Ck)(f:Fm):Ck:=⟨c.lems,c.tys,c.hyps++[f]⟩
def Ck.room(c:Ck)(v h:Nat):Int:=if c.tys.length+v>16∨c.hyps.length+h>16 then 3 else 0
def vf(a b:List Int):List Int:=yj (nub (nub [] a) b)
def Zhc(l:List Int)(n:Int):List Int:=(l.filter fun x=>decide (x≥n)).map (·-n)
def Ya1:List Int→Bool
 |[]=>false
 |x::_=>x==0
def Zco(t:Tm):List Int:=if t.err=0 then Zpn t else []
def Ze2(f:Fm)(t:Tm):Fm×Int:=(if yo f 0 t=0 then f.put 0 t else noFm,yo f 0 t)
def Zlx(c:Ck)(t:Tm)(k:Int):Int:=if(yy c.tys t).2≠0 then(yy c.tys t).2 else if(yy c.tys t).1.kind≠k then 7 else 0
def uk:List Tm→List Tm×Int
 |[]=>([],0)
 |t::l=>if(xm t 1000).2.2≠0 then([],(xm t 1000).2.2) else if(uk l).2≠0 then([],(uk l).2) else((xm t 1000).1::(uk l).1,0)
mutual
def xq:Fm→Fm×Int
 | .mk k h ts zs=>if(uk ts).2≠0 then(noFm,(uk ts).2) else if(y0 zs).2≠0 then(noFm,(y0 zs).2) else(.mk k h (uk ts).1 (y0 zs).1,0)
def y0:List Fm→List Fm×Int
 |[]=>([],0)
 |f::l=>if(xq f).2≠0 then([],(xq f).2) else if(y0 l).2≠0 then([],(y0 l).2) else((xq f).1::(y0 l).1,0)
end
mutual
def Za3:Fm→Bool
 | .mk k _ _ zs=>if k=1 then false else if k=2 then(Zhq zs).getD 0 false||(Zhq zs).getD 1 false else if k=5 then true else(Zhq zs).getLastD false
def Zhq:List Fm→List Bool
 |[]=>[]
 |f::l=>Za3 f::Zhq l
end
abbrev Res:=Fm×List Int×Int
abbrev Rs:=Ck→Res
def ya(e:Int):Res:=(noFm,[],e)
def yz(r:Rs)(c:Ck)(f:Fm)(t:Tm):List Int×Int:=
 if(r c).2.2≠0 then([],(r c).2.2) else if(Ze2 f t).2≠0 then([],(Ze2 f t).2) else((r c).2.1,Zqh (Ze2 f t).1 (r c).1)
def Yax(r:Res):Res:=if r.2.2≠0 then ya r.2.2 else if r.1.err≠0 then ya 4 else(r.1,if Za3 r.1=true then r.2.1 else [],0)
def Ycu(c:Ck)(i:Int):Res:=if i≥c.hyps.length then ya 8 else(c.hyps.getD (c.hyps.length-1-i.toNat) noFm,[],0)
def Ycp(c:Ck)(i:Int):Res:=if i≥c.lems.length then ya 9 else(c.lems.getD i.toNat noFm,[],0)
def Ybs(r0 r1:Rs)(c:Ck):Res:=if(r0 c).2.2≠0 then ya (r0 c).2.2 else(vk 2 (r0 c).1 (r1 c).1,vf (r0 c).2.1 (r1 c).2.1,(r1 c).2.2)
def Ybw(j:Nat)(r0:Rs)(c:Ck):Res:=if(r0 c).2.2≠0 then ya (r0 c).2.2 else if(r0 c).1.kind≠2 then ya 10 else((r0 c).1.args.getD j noFm,(r0 c).2.1,0)
def Zr9(f:Fm)(r0:Rs)(c:Ck):Res:=
 if ym c.tys f≠0 then ya (ym c.tys f) else if c.room 0 1≠0 then ya 3 else(vk 3 f (r0 (c.with_ f)).1,(r0 (c.with_ f)).2.1,(r0 (c.with_ f)).2.2)
def Zre(r0 r1:Rs)(c:Ck):Res:=
 if(r0 c).2.2≠0 then ya (r0 c).2.2 else if(r0 c).1.kind≠3 then ya 10 else if(r1 c).2.2≠0 then ya (r1 c).2.2
 else((r0 c).1.args.getD 1 noFm,vf (r0 c).2.1 (r1 c).2.1,Zqh ((r0 c).1.args.getD 0 noFm) (r1 c).1)
def Yb1(k:Int)(s:Ty)(r0:Rs)(c:Ck):Res:=
 if c.room 1 0≠0 then ya 3 else if(r0 (c.below [s])).2.2≠0 then ya (r0 (c.below [s])).2.2
 else if k=8 then(quF 4 s (r0 (c.below [s])).1,Zhc (r0 (c.below [s])).2.1 1,0)
 else if Ya1 (r0 (c.below [s])).2.1=true then ya 12 else(quF 6 s (r0 (c.below [s])).1,Zhc (r0 (c.below [s])).2.1 1,0)
def kI(k u a b:Int):Int:=if k=u then a else b
def kL(k u:Int)(a b:List Int):List Int:=if k=u then a else b
theorem Zgy{α:Type}{l:List α}{i:Nat}(h:i<l.length)(d:α):l.getD i d=l[i]:=by simp[List.getD,h]
def atR(k:Int)(t:Tm)(r0:Rs)(c:Ck):Res:=
 if(yy c.tys t).2≠0 then ya (yy c.tys t).2 else if(r0 c).2.2≠0 then ya (r0 c).2.2
 else if(r0 c).1.kind≠kI k 13 6 4 then ya 10 else if(r0 c).1.ty≠(yy c.tys t).1 then ya 7
 else((Ze2 ((r0 c).1.args.getD 0 noFm) t).1,kL k 13 (r0 c).2.1 (vf (r0 c).2.1 (Zco t)),(Ze2 ((r0 c).1.args.getD 0 noFm) t).2)
def exR(k:Int)(f:Fm)(t:Tm)(r0:Rs)(c:Ck):Res:=
 if ym c.tys f≠0 then ya (ym c.tys f) else if f.kind≠kI k 14 7 5 then ya 10
 else if(yy c.tys t).2≠0 then ya (yy c.tys t).2 else if f.ty≠(yy c.tys t).1 then ya 7
 else(f,kL k 14 (yz r0 c (f.args.getD 0 noFm) t).1 (vf (yz r0 c (f.args.getD 0 noFm) t).1 (Zco t)),(yz r0 c (f.args.getD 0 noFm) t).2)
def Zbn(f:Fm):Fm×Int:=
 if y1 0 f=0 then(f,0) else if(xq f).2≠0 then(noFm,(xq f).2) else if y1 0 (xq f).1≠0 then(noFm,6) else((xq f).1,0)
def Zhi(r1:Rs)(c:Ck)(a:Fm):Res:=r1 ((c.below [a.ty]).with_ (a.args.getD 0 noFm))
def Ybp(k:Int)(r0 r1:Rs)(c:Ck):Res:=
 if(r0 c).2.2≠0 then ya (r0 c).2.2 else if(r0 c).1.kind≠kI k 15 7 5 then ya 10 else if c.room 1 1≠0 then ya 3
 else if(Zhi r1 c (r0 c).1).2.2≠0 then ya (Zhi r1 c (r0 c).1).2.2
 else if(Zbn (Zhi r1 c (r0 c).1).1).2≠0 then ya (Zbn (Zhi r1 c (r0 c).1).1).2
 else if k=15∧Ya1 (Zhi r1 c (r0 c).1).2.1=true then ya 12
 else((Zbn (Zhi r1 c (r0 c).1).1).1.lft 1 (-1),vf (r0 c).2.1 (Zhc (Zhi r1 c (r0 c).1).2.1 1),0)
def Ycm(f:Fm)(t:Tm)(r0 r1:Rs)(c:Ck):Res:=
 if ww (c.tys++[natT]) f≠0 then ya (ww (c.tys++[natT]) f) else if Zlx c t 1≠0 then ya (Zlx c t 1)
 else if(yz r0 c f zT).2≠0 then ya (yz r0 c f zT).2 else if c.room 1 1≠0 then ya 3
 else if(yz r1 ((c.below [natT]).with_ f) (f.lft 1 1) (sT (vT 0))).2≠0 then ya (yz r1 ((c.below [natT]).with_ f) (f.lft 1 1) (sT (vT 0))).2
 else((Ze2 f t).1,vf (vf (Zco t) (yz r0 c f zT).1) (Zhc (yz r1 ((c.below [natT]).with_ f) (f.lft 1 1) (sT (vT 0))).1 1),(Ze2 f t).2)
def nilM:Tm:= .mk 7 0 (.mk 0 []) []
def consM:Tm:= .mk 8 0 (.mk 0 []) [vT 1,vT 0]
def Zrr(f:Fm)(t:Tm)(r0 r1:Rs)(c:Ck):Res:=
 if ww (c.tys++[listT]) f≠0 then ya (ww (c.tys++[listT]) f) else if Zlx c t 2≠0 then ya (Zlx c t 2)
 else if(yz r0 c f nilM).2≠0 then ya (yz r0 c f nilM).2 else if c.room 2 1≠0 then ya 3
 else if(yz r1 ((c.below [natT,listT]).with_ (f.lft 1 1)) (f.lft 1 2) consM).2≠0 then ya (yz r1 ((c.below [natT,listT]).with_ (f.lft 1 1)) (f.lft 1 2) consM).2
 else((Ze2 f t).1,vf (vf (Zco t) (yz r0 c f nilM).1) (Zhc (yz r1 ((c.below [natT,listT]).with_ (f.lft 1 1)) (f.lft 1 2) consM).1 2),(Ze2 f t).2)
def Zpe(t:Tm)(c:Ck):Res:=(eqF t t,[],Zlx c t 1)
def Zkd(f:Fm)(r0 r1:Rs)(c:Ck):Res:=
 if ww (c.tys++[natT]) f≠0 then ya (ww (c.tys++[natT]) f) else if(r0 c).2.2≠0 then ya (r0 c).2.2 else if(r0 c).1.kind≠1 then ya 10
 else if(yz r1 c f ((r0 c).1.terms.getD 0 Zbo)).2≠0 then ya (yz r1 c f ((r0 c).1.terms.getD 0 Zbo)).2
 else((Ze2 f ((r0 c).1.terms.getD 1 Zbo)).1,(yz r1 c f ((r0 c).1.terms.getD 0 Zbo)).1,(Ze2 f ((r0 c).1.terms.getD 1 Zbo)).2)
def appV:Tm:=apT (vT 1) (vT 0)
def chB(a:Fm):Fm×Int:=Ze2 (((a.args.getD 0 noFm).args.getD 0 noFm).lft 2 1) appV
def chF(a:Fm):Ty:=yw a.ty (a.args.getD 0 noFm).ty
def Zgl(r0:Rs)(c:Ck):Res:=
 if(r0 c).2.2≠0 then ya (r0 c).2.2 else if(r0 c).1.kind≠4∨((r0 c).1.args.getD 0 noFm).kind≠5 then ya 10 else if(chF (r0 c).1).err≠0 then ya 4
 else(quF 5 (chF (r0 c).1) (quF 4 (r0 c).1.ty (chB (r0 c).1).1),(r0 c).2.1,(chB (r0 c).1).2)
def Ziy(k i:Int)(s:Ty)(ts:List Tm)(fs:List Fm)(rs:List Rs)(c:Ck):Res:=
 if k=1 then Ycu c i else if k=2 then Ycp c i else if k=3 then Ybs (rs.getD 0 fun _=>ya 0) (rs.getD 1 fun _=>ya 0) c
 else if k=4∨k=5 then Ybw (k-4).toNat (rs.getD 0 fun _=>ya 0) c
 else if k=6 then Zr9 (fs.getD 0 noFm) (rs.getD 0 fun _=>ya 0) c
 else if k=7 then Zre (rs.getD 0 fun _=>ya 0) (rs.getD 1 fun _=>ya 0) c
 else if k=8∨k=12 then Yb1 k s (rs.getD 0 fun _=>ya 0) c
 else if k=9∨k=13 then atR k (ts.getD 0 Zbo) (rs.getD 0 fun _=>ya 0) c
 else if k=10∨k=14 then exR k (fs.getD 0 noFm) (ts.getD 0 Zbo) (rs.getD 0 fun _=>ya 0) c
 else if k=11∨k=15 then Ybp k (rs.getD 0 fun _=>ya 0) (rs.getD 1 fun _=>ya 0) c
 else if k=16 then Ycm (fs.getD 0 noFm) (ts.getD 0 Zbo) (rs.getD 0 fun _=>ya 0) (rs.getD 1 fun _=>ya 0) c
 else if k=17 then Zrr (fs.getD 0 noFm) (ts.getD 0 Zbo) (rs.getD 0 fun _=>ya 0) (rs.getD 1 fun _=>ya 0) c
 else if k=18 then Zpe (ts.getD 0 Zbo) c
 else if k=19 then Zkd (fs.getD 0 noFm) (rs.getD 0 fun _=>ya 0) (rs.getD 1 fun _=>ya 0) c
 else Zgl (rs.getD 0 fun _=>ya 0) c
mutual
def Zai:Pf→Rs
 | .mk k i s ts fs zs=>fun c=>Yax (Ziy k i s ts fs (Zv6 zs) c)
def Zv6:List Pf→List Rs
 |[]=>[]
 |p::l=>Zai p::Zv6 l
end
theorem Znj:∀l:List Pf,Zv6 l=l.map Zai
 |[]=>rfl
 |p::l=>by rw[Zv6,Znj l];rfl
theorem Zmy(p:Pf)(c:Ck):Zai p c=Yax (Ziy p.kind p.index p.ty p.terms p.forms (p.args.map Zai) c):=by cases p;simp only[Zai,Znj];rfl
theorem Zlc:∀l:List Fm,Zhq l=l.map Za3
 |[]=>rfl
 |p::l=>by rw[Zhq,Zlc l];rfl
theorem Zja(f:Fm):Za3 f=if f.kind=1 then false else if f.kind=2 then(f.args.map Za3).getD 0 false||(f.args.map Za3).getD 1 false else if f.kind=5 then true else(f.args.map Za3).getLastD false:=by
 cases f;simp only[Za3,Zlc];rfl
theorem Zny(f:Fm):xq f=if(uk f.terms).2≠0 then(noFm,(uk f.terms).2) else if(y0 f.args).2≠0 then(noFm,(y0 f.args).2) else(.mk f.kind f.ty (uk f.terms).1 (y0 f.args).1,0):=by
 cases f;simp only[xq];rfl
theorem wd{c:Ck}{v h:Nat}(hr:c.room v h=0):c.tys.length+v≤16∧c.hyps.length+h≤16:=by
 unfold Ck.room at hr
 split at hr
 ·cases hr
 ·rename_i hc;omega
theorem Zgs{c:Ck}{v h:Nat}(hr:c.room v h≠0):c.room v h=3:=by unfold Ck.room at*;split<;>simp_all
theorem Zf0:∀{g:List Ty},(∀x∈g,x.err=0)→wy g=0
 |[],_=>rfl
 |x::l,h=>by
  simp only[wy]
  rw[if_neg (by simp[h x (by simp)])]
  exact Zf0 fun y hy=>h y (by simp[hy])
theorem Zse{g:List Ty}(hl:g.length≤16)(h:∀x∈g,x.err=0):y6 g=0:=by
 unfold y6
 rw[if_neg (by omega)]
 exact Zf0 h
theorem u6{α:Type}{f:α→Int}:∀{l:List α},y9 f l=0→∀x∈l,f x=0
 |[],_,x,h=>by cases h
 |y::l,h,x,hx=>by
  simp only[y9] at h
  by_cases h1:f y≠0
  ·rw [if_pos h1] at h;exact absurd h h1
  ·rw [if_neg h1] at h
   rcases List.mem_cons.1 hx with rfl|hx
   ·exact Decidable.not_not.1 h1
   ·exact u6 h x hx
theorem Zs8{t:Ty}(he:t.err=0)(hk:t.kind=1):t=natT:=by
 have h:=((Ty.err_iff t).1 he).1
 obtain⟨k,zs⟩:=t
 rw[Ty.shape_eq,Bool.and_eq_true] at h
 have h1:=h.1
 simp only[Ty.kind,Ty.args] at hk h1
 subst hk
 have h2:zs.length=0:=by simpa [arT] using h1
 rw[List.eq_nil_of_length_eq_zero h2];rfl
theorem Zq0{t:Ty}(he:t.err=0)(hk:t.kind=2):t=listT:=by
 have h:=((Ty.err_iff t).1 he).1
 obtain⟨k,zs⟩:=t
 rw[Ty.shape_eq,Bool.and_eq_true] at h
 have h1:=h.1
 simp only[Ty.kind,Ty.args] at hk h1
 subst hk
 have h2:zs.length=0:=by simpa [arT] using h1
 rw[List.eq_nil_of_length_eq_zero h2];rfl
theorem Zlk{g:List Ty}{t:Tm}(hg:∀x∈g,x.err=0)(h:(Zau g t).2=0):t.err=0∧t.inf g=((Zau g t).1,0)∧(Zau g t).1.err=0:=by
 unfold Zau at h ⊢
 by_cases h1:t.err≠0
 ·rw [if_pos h1] at h;exact absurd h h1
 ·rw [if_neg h1] at h ⊢
  have h1':=Decidable.not_not.1 h1
  exact⟨h1',by rw[←h],Tm.inf_good t g ((Tm.err_iff t).1 h1').1 hg h⟩
theorem Zax{g:List Ty}{t:Tm}(h:(yy g t).2=0):y6 g=0∧t.err=0∧t.inf g=((yy g t).1,0)∧(yy g t).1.err=0:=by
 unfold yy at h ⊢
 by_cases h1:y6 g≠0
 ·rw [if_pos h1] at h;exact absurd h h1
 ·rw [if_neg h1] at h ⊢
  have h1':=Decidable.not_not.1 h1
  exact⟨h1',Zlk (vj h1').2 h⟩
theorem Zzm(f:Fm):∀g:List Ty,(∀x∈g,x.err=0)→f.shape=true→f.tyE g=0→f.okT g:=by
 induction f using Fm.ind with
 |h f ih=>
  intro g hg hs h
  rw[Fm.tyE_eq] at h
  by_cases h1:y9 (tE g) f.terms≠0
  ·rw [if_pos h1] at h;exact absurd h h1
  ·rw [if_neg h1] at h
   rw[Fm.okT_iff]
   refine⟨fun t ht=> ?_,fun x hx=> ?_⟩
   ·have h2:=u6 (Decidable.not_not.1 h1) t ht
    unfold tE at h2
    by_cases h3:(Zau g t).2≠0
    ·rw [if_pos h3] at h2;exact absurd h2 h3
    ·rw [if_neg h3] at h2
     obtain⟨a,b,c⟩:=Zlk hg (Decidable.not_not.1 h3)
     by_cases h4:(Zau g t).1.kind≠1
     ·rw [if_pos h4] at h2;cases h2
     ·rw [b,Zs8 c (Decidable.not_not.1 h4)]
   ·have h2:=u6 h x hx
    refine ih x hx _ ?_ (zo hs hx) h2
    by_cases hq:xi f.kind=true
    ·rw [Zdt hq]
     intro y hy
     rcases List.mem_append.1 hy with hy|hy
     ·exact hg y hy
     ·simp only[List.mem_singleton] at hy
      subst hy
      have hk:=quantK_iff.1 hq
      rcases Zca hs with⟨h5,_⟩|⟨h5,_⟩|⟨_,_,h6⟩
      ·omega
      ·omega
      ·exact h6
    ·rw [Zdn hq];exact hg
theorem ur{g:List Ty}{f:Fm}(hg:∀x∈g,x.err=0)(h:ww g f=0):f.err=0∧f.okT g:=by
 unfold ww at h
 by_cases h1:f.err≠0
 ·rw [if_pos h1] at h;exact absurd h h1
 ·rw [if_neg h1] at h
  have h1':=Decidable.not_not.1 h1
  exact⟨h1',Zzm f g hg ((Fm.err_iff f).1 h1').1 h⟩
theorem xo{g:List Ty}{f:Fm}(h:ym g f=0):f.err=0∧f.okT g:=by
 unfold ym at h
 by_cases h1:y6 g≠0
 ·rw [if_pos h1] at h;exact absurd h h1
 ·rw [if_neg h1] at h
  exact ur (vj (Decidable.not_not.1 h1)).2 h
theorem Znt{c:Ck}{t:Tm}{k:Int}(h:Zlx c t k=0):t.err=0∧t.inf c.tys=((yy c.tys t).1,0)∧(yy c.tys t).1.err=0∧(yy c.tys t).1.kind=k:=by
 unfold Zlx at h
 by_cases h1:(yy c.tys t).2≠0
 ·rw [if_pos h1] at h;exact absurd h h1
 ·rw [if_neg h1] at h
  obtain⟨_,a,b,d⟩:=Zax (Decidable.not_not.1 h1)
  refine⟨a,b,d,?_⟩
  by_cases h2:(yy c.tys t).1.kind≠k
  ·rw [if_pos h2] at h;cases h
  ·exact Decidable.not_not.1 h2
theorem Zox(t:Tm):∀(g:List Ty) (b:Int),t.shape=true→(t.inf g).2=0→∀p∈t.vars b,p.1-p.2<g.length-b:=by
 induction t using Tm.ind with
 |h t ih=>
  intro g b hs h p hp
  have hargs:=zd hs
  by_cases k1:t.kind=1
  ·rw [vt hs k1] at hp
   simp only[List.mem_singleton] at hp
   subst hp
   rw[Tm.inf_eq,if_pos k1] at h
   by_cases hi:t.index≥g.length
   ·rw [if_pos hi] at h;cases h
   ·simp only;omega
  ·rw [uz k1] at hp
   obtain⟨x,hx,hp⟩:=List.mem_flatMap.1 hp
   by_cases k2:t.kind=2
   ·have e:up t.kind b=b+1:=by simp[up,k2]
    rw[e] at hp
    rw[Tm.inf_eq,if_neg k1,if_pos k2] at h
    have h0:(Tm.infs (g++[t.ty]) t.args).2=0:=by
     by_cases h1:(Tm.infs (g++[t.ty]) t.args).2≠0
     ·rw [if_pos h1] at h;exact h
     ·exact Decidable.not_not.1 h1
    have:=ih x hx (g++[t.ty]) (b+1) (hargs x hx) (Tm.infs_all _ _ h0 x hx) p hp
    simp only[List.length_append,List.length_cons,List.length_nil] at this
    omega
   ·have e:up t.kind b=b:=by simp[up,k2]
    rw[e] at hp
    exact ih x hx g b (hargs x hx) ((w7 (T:=(t.inf g).1) k1 k2 (by rw[←h])).1 x hx) p hp
def UsesOk(n:Nat)(l:List Int):Prop:=l.Nodup∧∀u∈l,0≤u∧u<n
theorem UsesOk.nil(n:Nat):UsesOk n []:=⟨List.nodup_nil,fun u h=>by cases h⟩
theorem UsesOk.len{n:Nat}{l:List Int}(h:UsesOk n l):l.length≤n:=(Zta n l h.1 h.2).1
theorem mem_unionI{a b:List Int}{x:Int}:x∈vf a b↔x∈a∨x∈b:=by
 rw[vf,(x6 _).mem_iff,mem_nub,mem_nub];simp
theorem UsesOk.union{n:Nat}{a b:List Int}(ha:∀u∈a,0≤u∧u<(n:Int))(hb:∀u∈b,0≤u∧u<(n:Int)):UsesOk n (vf a b):=by
 refine⟨?_,fun u hu=> ?_⟩
 ·rw [vf,(x6 _).nodup_iff];exact vw (vw List.nodup_nil)
 ·rcases mem_unionI.1 hu with h|h
  ·exact ha u h
  ·exact hb u h
theorem mem_outI{l:List Int}{n x:Int}:x∈Zhc l n↔0≤x∧x+n∈l:=by
 simp only[Zhc,List.mem_map,List.mem_filter,decide_eq_true_eq]
 constructor
 ·rintro ⟨y,⟨h1,h2⟩,rfl⟩
  exact⟨by omega,by rw[Int.sub_add_cancel];exact h1⟩
 ·rintro ⟨h1,h2⟩
  exact⟨x+n,⟨h2,by omega⟩,by omega⟩
theorem UsesOk.out{n m:Nat}{l:List Int}(h:UsesOk (n+m) l):UsesOk n (Zhc l m):=by
 refine⟨?_,fun u hu=> ?_⟩
 ·have h1:(l.filter fun x=>decide (x≥(m:Int))).Nodup:=h.1.filter _
  unfold Zhc
  rw[List.nodup_iff_pairwise_ne,List.pairwise_map]
  exact(List.nodup_iff_pairwise_ne.1 h1).imp fun hne e=>hne (by omega)
 ·obtain ⟨h1,h2⟩:=mem_outI.1 hu
  have:=h.2 _ h2
  exact⟨h1,by omega⟩
theorem vr{t:Tm}{g:List Ty}{T:Ty}(h:t.inf g=(T,0)):UsesOk g.length (Zco t):=by
 unfold Zco
 by_cases he:t.err=0
 ·rw [if_pos he]
  refine⟨Zmx t,fun u hu=> ?_⟩
  obtain⟨h0,h1⟩:=mem_usesI.1 hu
  refine⟨h0,?_⟩
  obtain⟨p,hp,e⟩:=mem_cnt.2 h1
  have:=Zox t g 0 ((Tm.err_iff t).1 he).1 (by rw[h]) p hp
  omega
 ·rw [if_neg he];exact .nil _
theorem Zxd{t:Tm}{g:List Ty}(m:List Ty)(hs:t.shape=true)(h:(t.inf g).2=0):t.inf (m++g)=t.inf g:=by
 have h1:=Zi8 t [] m g g.length 0 hs (by omega)
 rw[List.nil_append,List.nil_append] at h1
 rw[←h1]
 congr 1
 refine(Yeq t 0 hs fun p hp=> ?_).symm
 have:=Zox t g 0 hs h p hp
 rw[xr,if_neg (by omega)]
theorem Zsf(f:Fm):∀(g m:List Ty),f.shape=true→f.okT g→f.okT (m++g):=by
 induction f using Fm.ind with
 |h f ih=>
  intro g m hs hok
  rw[Fm.okT_iff] at hok ⊢
  refine⟨fun t ht=> ?_,fun x hx=> ?_⟩
  ·have:=hok.1 t ht
   rw[Zxd m (yd hs ht) (by rw[this])];exact this
  ·have:=ih x hx _ m (zo hs hx) (hok.2 x hx)
   by_cases hq:xi f.kind=true
   ·rw [Zdt hq] at this ⊢;rw[List.append_assoc];exact this
   ·rw [Zdn hq] at this ⊢;exact this
theorem w4{f x:Fm}(hf:f.err=0)(hx:x∈f.args):x.err=0:=by
 have h:=(Fm.err_iff f).1 hf
 have h1:=zb Fm.size hx
 have h2:=f.size_eq
 exact(Fm.err_iff x).2 ⟨zo h.1 hx,by omega⟩
theorem Zoh{f:Fm}{t:Tm}(hf:f.err=0)(ht:t∈f.terms):t.err=0:=by
 have h:=(Fm.err_iff f).1 hf
 have h1:=zb Tm.size ht
 have h2:=f.size_eq
 exact(Tm.err_iff t).2 ⟨yd h.1 ht,by omega⟩
theorem Zk5{f:Fm}(hs:f.shape=true)(hk:f.kind=2∨f.kind=3):∃a b,f=vk f.kind a b:=by
 rw[Fm.shape_eq,Bool.and_eq_true,Bool.and_eq_true] at hs
 have h1:=hs.1.1
 unfold Fm.head at h1
 rw[if_neg (by omega),if_pos hk] at h1
 simp only[Bool.and_eq_true,beq_iff_eq] at h1
 clear hs
 obtain⟨k,h,ts,zs⟩:=f
 simp only[Fm.kind_mk,Fm.terms_mk,Fm.args_mk] at h1 hk
 have e1:ts=[]:=List.eq_nil_of_length_eq_zero h1.1.2
 match zs,h1 with
 |[a,b],h1=>
  refine⟨a,b,?_⟩
  have e2:h= .mk 0 []:=Ty.no_of (by simp_all)
  rw[e1,e2];rfl
 |[],h1=>simp at h1
 |[a],h1=>simp at h1
 |a::b::c::l,h1=>simp at h1
theorem Zhg{f:Fm}(hs:f.shape=true)(hk:4≤f.kind∧f.kind≤7):∃a,f=quF f.kind f.ty a:=by
 rw[Fm.shape_eq,Bool.and_eq_true,Bool.and_eq_true] at hs
 have h1:=hs.1.1
 unfold Fm.head at h1
 rw[if_neg (by omega),if_neg (by omega),if_pos (by omega)] at h1
 simp only[Bool.and_eq_true,beq_iff_eq] at h1
 clear hs
 obtain⟨k,h,ts,zs⟩:=f
 simp only[Fm.kind_mk,Fm.terms_mk,Fm.args_mk] at h1 hk
 have e1:ts=[]:=List.eq_nil_of_length_eq_zero h1.1.2
 match zs,h1 with
 |[a],h1=>exact⟨a,by rw[e1];rfl⟩
 |[],h1=>simp at h1
 |a::b::l,h1=>simp at h1
theorem Yag{f:Fm}(hs:f.shape=true)(hk:f.kind=1):∃a b,f=eqF a b:=by
 rw[Fm.shape_eq,Bool.and_eq_true,Bool.and_eq_true] at hs
 have h1:=hs.1.1
 unfold Fm.head at h1
 rw[if_pos hk] at h1
 simp only[Bool.and_eq_true,beq_iff_eq] at h1
 clear hs
 obtain⟨k,h,ts,zs⟩:=f
 simp only[Fm.kind_mk,Fm.terms_mk,Fm.args_mk] at h1 hk
 have e1:zs=[]:=List.eq_nil_of_length_eq_zero h1.2
 match ts,h1 with
 |[a,b],h1=>
  have e2:h= .mk 0 []:=Ty.no_of (by simp_all)
  exact⟨a,b,by rw[e1,e2,hk];rfl⟩
 |[],h1=>simp at h1
 |[a],h1=>simp at h1
 |a::b::c::l,h1=>simp at h1
theorem Zey{f:Fm}(hf:f.shape=true)(hk:4≤f.kind∧f.kind≤7):f.ty.err=0:=by
 rcases Zca hf with⟨h,_⟩|⟨h,_⟩|⟨_,_,h⟩
 ·omega
 ·omega
 ·exact h
theorem Zs4{k:Int}{a b:Fm}{g:List Ty}(hk:k=2∨k=3)(h:(vk k a b).okT g):a.okT g∧b.okT g:=by
 rw[Fm.okT_iff] at h
 have e:Ze7 g (vk k a b)=g:=Zdn (by show ¬xi k=true;rw[quantK_iff];omega)
 rw[e] at h
 exact⟨h.2 a (by simp[vk]),h.2 b (by simp[vk])⟩
theorem Zgj{k:Int}{s:Ty}{a:Fm}{g:List Ty}(hk:4≤k∧k≤7)(h:(quF k s a).okT g):a.okT (g++[s]):=by
 rw[Fm.okT_iff] at h
 have e:Ze7 g (quF k s a)=g++[s]:=Zdt (quantK_iff.2 hk)
 rw[e] at h
 exact h.2 a (by simp[quF])
theorem eq_okT{a b:Tm}{g:List Ty}:(eqF a b).okT g↔a.inf g=(natT,0)∧b.inf g=(natT,0):=by
 rw[Fm.okT_iff]
 simp[eqF]
theorem Zd2{k:Int}{a b:Fm}(hk:k=2∨k=3)(ha:a.shape=true)(hb:b.shape=true):(vk k a b).shape=true:=by
 rw[Fm.shape_eq]
 rcases hk with rfl|rfl<;>simp[vk,Fm.head,ha,hb,Ty.isNo,Ty.kind,Ty.args]
theorem v6{k:Int}{s:Ty}{a:Fm}(hk:4≤k∧k≤7)(hs:s.err=0)(ha:a.shape=true):(quF k s a).shape=true:=by
 rw[Fm.shape_eq]
 have h1:=(Ty.err_iff s).1 hs
 have h2:s.ok=true:=Zpc h1.1 h1.2
 have:k=4∨k=5∨k=6∨k=7:=by omega
 rcases this with rfl|rfl|rfl|rfl<;>simp[quF,Fm.head,ha,h2]
theorem Zdw(k:Int)(a b:Fm):(vk k a b).size=1+a.size+b.size:=by rw[Fm.size_eq];simp[vk];omega
theorem Zcf(k:Int)(s:Ty)(a:Fm):(quF k s a).size=1+a.size:=by rw[Fm.size_eq];simp[quF]
theorem Zbf{f:Fm}{g h:List Ty}(m:List Ty)(hf:f.shape=true)(hok:f.okT (g++h)):(f.lft h.length m.length).okT (g++m++h):=by
 have:=Zu8 g m h.length f h 0 (by omega) hf hok
 exact this
theorem Zgn{f:Fm}{t:Tm}{g:List Ty}{σ:Ty}(hf:f.okT (g++[σ]))(ht:t.inf g=(σ,0))(h:(Ze2 f t).2=0):(Ze2 f t).1.err=0∧(Ze2 f t).1.okT g:=by
 have h':yo f 0 t=0:=h
 have e:(Ze2 f t).1=f.put 0 t:=if_pos h'
 obtain⟨h1,h2,_⟩:=Zb8 h'
 rw[e]
 refine⟨Zv5 (by omega) h',?_⟩
 have h3:=Zi0 0 t g σ ((Tm.err_iff t).1 h2).1 ht f [] 0 rfl ((Fm.err_iff f).1 h1).1 (by simpa using hf)
 rw[List.append_nil] at h3
 exact h3
structure Ck.ok (c:Ck):Prop where
 ctx:y6 c.tys=0
 nh:c.hyps.length≤16
 nl:c.lems.length≤32
 hyps:∀f∈c.hyps,f.err=0∧f.okT c.tys
 lems:∀f∈c.lems,f.err=0∧f.okT []
theorem Ck.ok.len{c:Ck}(h:c.ok):c.tys.length≤16:=(vj h.ctx).1
theorem Ck.ok.all{c:Ck}(h:c.ok):∀x∈c.tys,x.err=0:=(vj h.ctx).2
theorem Ck.ok.below{c:Ck}(h:c.ok){l:List Ty}(hl:c.tys.length+l.length≤16)(he:∀x∈l,x.err=0):(c.below l).ok:=by
 refine⟨Zse (by simp[Ck.below];omega) fun x hx=> ?_,by simp[Ck.below];exact h.nh,h.nl,fun f hf=> ?_,h.lems⟩
 ·rcases List.mem_append.1 hx with hx|hx
  ·exact h.all x hx
  ·exact he x hx
 ·obtain ⟨y,hy,rfl⟩:=List.mem_map.1 hf
  obtain⟨h1,h2⟩:=h.hyps y hy
  refine⟨Zf4 h1 (by omega),?_⟩
  have h3:=Zbf (g:=c.tys) (h:=[]) l ((Fm.err_iff y).1 h1).1 (by simpa using h2)
  simpa [Ck.below] using h3
theorem Ck.ok.with_{c:Ck}(h:c.ok){f:Fm}(hl:c.hyps.length+1≤16)(hf:f.err=0)(hok:f.okT c.tys):(c.with_ f).ok:=by
 refine⟨h.ctx,by simp[Ck.with_];omega,h.nl,fun y hy=> ?_,h.lems⟩
 rcases List.mem_append.1 hy with hy|hy
 ·exact h.hyps y hy
 ·simp only[List.mem_singleton] at hy
  subst hy;exact⟨hf,hok⟩
def w8(c:Ck)(r:Res):Prop:=r.2.2=0→r.1.shape=true∧r.1.size≤20000000∧r.1.okT c.tys∧UsesOk c.tys.length r.2.1
def Zdk(c:Ck)(r:Res):Prop:=(r.2.2=0→r.1.err=0∧r.1.okT c.tys∧UsesOk c.tys.length r.2.1)∧(r.2.2≠0→r=ya r.2.2)
theorem zn(c:Ck){e:Int}(he:e≠0):w8 c (ya e):=fun h=>absurd h he
theorem Zzc{c:Ck}{r:Res}(h:w8 c r):Zdk c (Yax r):=by
 unfold Yax
 by_cases h1:r.2.2≠0
 ·rw [if_pos h1];exact⟨fun h=>absurd h h1,fun _=>rfl⟩
 ·rw [if_neg h1]
  by_cases h2:r.1.err≠0
  ·rw [if_pos h2];exact⟨fun h=>absurd h (by decide),fun _=>rfl⟩
  ·rw [if_neg h2]
   obtain⟨_,_,h4,h5⟩:=h (Decidable.not_not.1 h1)
   refine⟨fun _=>⟨Decidable.not_not.1 h2,h4,?_⟩,fun h=>absurd rfl h⟩
   simp only
   split
   ·exact h5
   ·exact .nil _
def RsOk(r:Rs):Prop:=∀c,c.ok→Zdk c (r c)
theorem RsOk.good{r:Rs}(h:RsOk r){c:Ck}(hc:c.ok)(he:(r c).2.2=0):(r c).1.err=0∧(r c).1.okT c.tys∧UsesOk c.tys.length (r c).2.1:=(h c hc).1 he
theorem yi{f:Fm}(h:f.err=0):f.shape=true∧f.size≤20000000:=by
 have:=(Fm.err_iff f).1 h;exact⟨this.1,by omega⟩
theorem Zsy{c:Ck}(hc:c.ok){i:Int}(hi:0≤i):w8 c (Ycu c i):=by
 unfold Ycu
 split
 ·exact zn c (by decide)
 ·rename_i h
  intro _
  have hlt:c.hyps.length-1-i.toNat<c.hyps.length:=by omega
  simp only
  rw[Zgy hlt]
  obtain⟨h1,h2⟩:=hc.hyps _ (List.getElem_mem hlt)
  exact⟨(yi h1).1,(yi h1).2,h2,.nil _⟩
theorem Zun{c:Ck}(hc:c.ok){i:Int}(hi:0≤i):w8 c (Ycp c i):=by
 unfold Ycp
 split
 ·exact zn c (by decide)
 ·rename_i h
  intro _
  have hlt:i.toNat<c.lems.length:=by omega
  simp only
  rw[Zgy hlt]
  obtain⟨h1,h2⟩:=hc.lems _ (List.getElem_mem hlt)
  have h3:=Zsf _ [] c.tys (yi h1).1 h2
  rw[List.append_nil] at h3
  exact⟨(yi h1).1,(yi h1).2,h3,.nil _⟩
theorem Zsz{r0 r1:Rs}(h0:RsOk r0)(h1:RsOk r1){c:Ck}(hc:c.ok):w8 c (Ybs r0 r1 c):=by
 unfold Ybs
 split
 ·rename_i h;exact zn c h
 ·rename_i h
  intro he
  obtain⟨a1,a2,a3⟩:=h0.good hc (Decidable.not_not.1 h)
  obtain⟨b1,b2,b3⟩:=h1.good hc he
  have s1:=(Fm.err_iff _).1 a1
  have s2:=(Fm.err_iff _).1 b1
  exact⟨Zd2 (.inl rfl) s1.1 s2.1,by rw[Zdw];omega,Zfp (.inl rfl) a2 b2,.union a3.2 b3.2⟩
theorem Zik{r0:Rs}(h0:RsOk r0){c:Ck}(hc:c.ok){j:Nat}(hj:j<2):w8 c (Ybw j r0 c):=by
 unfold Ybw
 split
 ·rename_i h;exact zn c h
 rename_i h
 split
 ·exact zn c (by decide)
 rename_i h2
 intro _
 obtain⟨a1,a2,a3⟩:=h0.good hc (Decidable.not_not.1 h)
 have s1:=(Fm.err_iff _).1 a1
 obtain⟨x,y,e⟩:=Zk5 s1.1 (.inl (Decidable.not_not.1 h2))
 have hk:(r0 c).1.kind=2:=Decidable.not_not.1 h2
 rw[hk] at e
 rw[e] at a2
 obtain⟨o1,o2⟩:=Zs4 (.inl rfl) a2
 have e1:=w4 a1 (x:=x) (by rw[e];simp[vk])
 have e2:=w4 a1 (x:=y) (by rw[e];simp[vk])
 have:(r0 c).1.args=[x,y]:=by rw[e];rfl
 simp only[this]
 rcases j with _|_|j
 ·exact ⟨(yi e1).1,(yi e1).2,o1,a3⟩
 ·exact ⟨(yi e2).1,(yi e2).2,o2,a3⟩
 ·omega
theorem Zn4{r0:Rs}(h0:RsOk r0){f:Fm}{c:Ck}(hc:c.ok):w8 c (Zr9 f r0 c):=by
 unfold Zr9
 split
 ·rename_i h;exact zn c h
 rename_i h
 split
 ·exact zn c (by decide)
 rename_i h2
 intro he
 obtain⟨f1,f2⟩:=xo (Decidable.not_not.1 h)
 have hr:=wd (Decidable.not_not.1 h2)
 obtain⟨a1,a2,a3⟩:=h0.good (hc.with_ (f:=f) hr.2 f1 f2) he
 have s1:=(Fm.err_iff _).1 a1
 have s2:=(Fm.err_iff _).1 f1
 exact⟨Zd2 (.inr rfl) s2.1 s1.1,by rw[Zdw];omega,Zfp (.inr rfl) f2 a2,a3⟩
theorem Zoc{r0 r1:Rs}(h0:RsOk r0)(h1:RsOk r1){c:Ck}(hc:c.ok):w8 c (Zre r0 r1 c):=by
 unfold Zre
 split
 ·rename_i h;exact zn c h
 rename_i h
 split
 ·exact zn c (by decide)
 rename_i h2
 split
 ·rename_i h;exact zn c h
 rename_i h3
 intro _
 obtain⟨a1,a2,a3⟩:=h0.good hc (Decidable.not_not.1 h)
 obtain⟨b1,b2,b3⟩:=h1.good hc (Decidable.not_not.1 h3)
 have s1:=(Fm.err_iff _).1 a1
 have hk:(r0 c).1.kind=3:=Decidable.not_not.1 h2
 obtain⟨x,y,e⟩:=Zk5 s1.1 (.inr hk)
 rw[hk] at e
 rw[e] at a2
 obtain⟨o1,o2⟩:=Zs4 (.inr rfl) a2
 have e2:=w4 a1 (x:=y) (by rw[e];simp[vk])
 have:(r0 c).1.args=[x,y]:=by rw[e];rfl
 simp only[this]
 exact⟨(yi e2).1,(yi e2).2,o2,.union a3.2 b3.2⟩
theorem Zi6{r0:Rs}(h0:RsOk r0){k:Int}{s:Ty}(hs:s.err=0){c:Ck}(hc:c.ok):w8 c (Yb1 k s r0 c):=by
 unfold Yb1
 split
 ·exact zn c (by decide)
 rename_i h
 have hr:=wd (Decidable.not_not.1 h)
 have hb:=hc.below (l:=[s]) hr.1 (by simpa using hs)
 split
 ·rename_i h;exact zn c h
 rename_i h2
 obtain⟨a1,a2,a3⟩:=h0.good hb (Decidable.not_not.1 h2)
 have s1:=(Fm.err_iff _).1 a1
 have hu:UsesOk c.tys.length (Zhc (r0 (c.below [s])).2.1 1):=by
  have:=UsesOk.out (n:=c.tys.length) (m:=1) (l:=(r0 (c.below [s])).2.1) (by simpa [Ck.below] using a3)
  exact this
 split
 ·intro _
  exact⟨v6 (by omega) hs s1.1,by rw[Zcf];omega,Zb4 (by omega) a2,hu⟩
 split
 ·exact zn c (by decide)
 ·intro _
  exact⟨v6 (by omega) hs s1.1,by rw[Zcf];omega,Zb4 (by omega) a2,hu⟩
theorem Zop{r0:Rs}(h0:RsOk r0){k:Int}{t:Tm}{c:Ck}(hc:c.ok):w8 c (atR k t r0 c):=by
 unfold atR
 split
 ·rename_i h;exact zn c h
 rename_i h
 split
 ·rename_i h;exact zn c h
 rename_i h2
 split
 ·exact zn c (by decide)
 rename_i h3
 split
 ·exact zn c (by decide)
 rename_i h4
 intro he
 obtain⟨_,t1,t2,_⟩:=Zax (Decidable.not_not.1 h)
 obtain⟨a1,a2,a3⟩:=h0.good hc (Decidable.not_not.1 h2)
 have s1:=(Fm.err_iff _).1 a1
 have hk:(r0 c).1.kind=kI k 13 6 4:=Decidable.not_not.1 h3
 have hk':4≤(r0 c).1.kind∧(r0 c).1.kind≤7:=by rw[hk,kI];split<;>omega
 obtain⟨x,e⟩:=Zhg s1.1 hk'
 rw[e] at a2
 have o1:=Zgj hk' a2
 have hx:(r0 c).1.args.getD 0 noFm=x:=by rw[e];rfl
 rw[hx] at he ⊢
 have hty:(r0 c).1.ty=(yy c.tys t).1:=Decidable.not_not.1 h4
 rw[hty] at o1
 obtain⟨p1,p2⟩:=Zgn o1 t2 he
 refine⟨(yi p1).1,(yi p1).2,p2,?_⟩
 simp only[kL]
 split
 ·exact a3
 ·exact .union a3.2 (vr t2).2
theorem wi{r0:Rs}(h0:RsOk r0){c:Ck}(hc:c.ok)(f:Fm)(t:Tm):UsesOk c.tys.length (yz r0 c f t).1:=by
 unfold yz
 split
 ·exact .nil _
 rename_i h
 split
 ·exact .nil _
 ·exact (h0.good hc (Decidable.not_not.1 h)).2.2
theorem Znv{r0:Rs}(h0:RsOk r0){k:Int}{f:Fm}{t:Tm}{c:Ck}(hc:c.ok):w8 c (exR k f t r0 c):=by
 unfold exR
 split
 ·rename_i h;exact zn c h
 rename_i h
 split
 ·exact zn c (by decide)
 split
 ·rename_i h;exact zn c h
 rename_i h3
 split
 ·exact zn c (by decide)
 intro _
 obtain⟨f1,f2⟩:=xo (Decidable.not_not.1 h)
 obtain⟨_,t1,t2,_⟩:=Zax (Decidable.not_not.1 h3)
 have hp:=wi h0 hc (f.args.getD 0 noFm) t
 refine⟨(yi f1).1,(yi f1).2,f2,?_⟩
 simp only[kL]
 split
 ·exact hp
 ·exact .union hp.2 (vr t2).2
theorem Zom:∀(l:List Tm),(uk l).2=0→(uk l).1.length=l.length∧(∀t∈(uk l).1,t.err=0)∧∀(g:List Ty) (T:Ty),(∀t∈l,t.inf g=(T,0))→∀t∈(uk l).1,t.inf g=(T,0)
 |[],_=>⟨rfl,fun t h=>absurd h (List.not_mem_nil),fun g T _ t h=>absurd h (List.not_mem_nil)⟩
 |x::l,h=>by
  simp only[uk] at h ⊢
  by_cases h1:(xm x 1000).2.2≠0
  ·rw [if_pos h1] at h;exact absurd h h1
  ·rw [if_neg h1] at h ⊢
   by_cases h2:(uk l).2≠0
   ·rw [if_pos h2] at h;exact absurd h h2
   ·rw [if_neg h2]
    obtain⟨a1,a2,a3⟩:=Zom l (Decidable.not_not.1 h2)
    obtain⟨_,b1,_,_,b2⟩:=Zxh (Decidable.not_not.1 h1)
    refine⟨by simp[a1],fun t ht=> ?_,fun g T hl t ht=> ?_⟩
    ·rcases List.mem_cons.1 ht with rfl|ht
     ·exact b1
     ·exact a2 t ht
    ·rcases List.mem_cons.1 ht with rfl|ht
     ·exact b2 g T (hl x (by simp))
     ·exact a3 g T (fun t ht=>hl t (by simp[ht])) t ht
theorem Zj8(P:Fm→Fm→Prop):∀(l:List Fm),(∀f∈l,(xq f).2=0→P f (xq f).1)→(y0 l).2=0→(y0 l).1.length=l.length∧∀(i:Nat) (h1:i<l.length) (h2:i<(y0 l).1.length),P l[i] (y0 l).1[i]
 |[],_,_=>⟨rfl,fun i h=>by simp at h⟩
 |x::l,hP,h=>by
  have h0:=h
  simp only[y0] at h0
  by_cases h1:(xq x).2≠0
  ·rw [if_pos h1] at h0;exact absurd h0 h1
  ·rw [if_neg h1] at h0
   by_cases h2:(y0 l).2≠0
   ·rw [if_pos h2] at h0;exact absurd h0 h2
   ·have e:y0 (x::l)=((xq x).1::(y0 l).1,0):=by simp only[y0];rw[if_neg h1,if_neg h2]
    obtain⟨a1,a2⟩:=Zj8 P l (fun f hf=>hP f (by simp[hf])) (Decidable.not_not.1 h2)
    generalize y0 (x::l)=q at h e ⊢
    subst e
    refine⟨by simp[a1],fun i hi hj=> ?_⟩
    cases i with
    |zero=>exact hP x (by simp) (Decidable.not_not.1 h1)
    |succ i=>exact a2 i (by simpa using hi) (by simpa using hj)
theorem Zev{α:Type}{f:α→Nat}{C:Nat}:∀(l:List α),(∀x∈l,f x≤C)→(l.map f).sum≤C*l.length
 |[],_=>by simp
 |x::l,h=>by
  have h1:=Zev l fun y hy=>h y (by simp[hy])
  have h2:=h x (by simp)
  simp only[List.map_cons,List.sum_cons,List.length_cons,Nat.mul_add,Nat.mul_one];omega
theorem Zni(f:Fm):(xq f).2=0→f.shape=true→(xq f).1.kind=f.kind∧(xq f).1.shape=true∧(xq f).1.size≤4096*f.size∧∀g,f.okT g→(xq f).1.okT g:=by
 induction f using Fm.ind with
 |h f ih=>
  intro h hs
  rw[Zny] at h ⊢
  by_cases h1:(uk f.terms).2≠0
  ·rw [if_pos h1] at h;exact absurd h h1
  rw[if_neg h1] at h ⊢
  by_cases h2:(y0 f.args).2≠0
  ·rw [if_pos h2] at h;exact absurd h h2
  rw[if_neg h2]
  obtain⟨a1,a2,a3⟩:=Zom f.terms (Decidable.not_not.1 h1)
  obtain⟨b1,b2⟩:=Zj8 (fun x y=>y.kind=x.kind∧y.shape=true∧y.size≤4096*x.size∧∀g,x.okT g→y.okT g) f.args (fun x hx he=>ih x hx he (zo hs hx)) (Decidable.not_not.1 h2)
  have hsh:(Fm.mk f.kind f.ty (uk f.terms).1 (y0 f.args).1).shape=true:=by
   rw[Fm.shape_eq,Bool.and_eq_true,Bool.and_eq_true] at hs ⊢
   refine⟨⟨?_,List.all_eq_true.2 fun t ht=>((Tm.err_iff t).1 (a2 t ht)).1⟩,List.all_eq_true.2 fun y hy=> ?_⟩
   ·have:=hs.1.1
    unfold Fm.head at this ⊢
    simp only[Fm.kind_mk,Fm.terms_mk,Fm.args_mk,a1,b1] at this ⊢
    exact this
   ·obtain ⟨i,hi,rfl⟩:=List.getElem_of_mem hy
    have hi':i<(y0 f.args).1.length:=hi
    exact(b2 i (by omega) hi').2.1
  refine⟨rfl,hsh,?_,fun g hok=> ?_⟩
  ·have e1:=f.size_eq
   rw[Fm.size_eq]
   simp only[Fm.terms_mk,Fm.args_mk]
   have s1:=Zev (f:=Tm.size) (C:=4096) (uk f.terms).1 fun t ht=>((Tm.err_iff t).1 (a2 t ht)).2
   have s2:=zc Tm.size Tm.size_pos f.terms
   have s3:((y0 f.args).1.map Fm.size).sum≤4096*(f.args.map Fm.size).sum:=by
    have:∀(l m:List Fm),m.length=l.length→(∀(i:Nat) (h1:i<l.length) (h2:i<m.length),m[i].size≤4096*l[i].size)→(m.map Fm.size).sum≤4096*(l.map Fm.size).sum:=by
     intro l
     induction l with
     |nil=>intro m hm _;have:m=[]:=List.eq_nil_of_length_eq_zero hm;subst this;simp
     |cons x l ihl=>
      intro m hm hh
      match m,hm with
      |y::m,hm=>
       have q1:=ihl m (by simpa using hm) fun i h1 h2=>by have:=hh (i+1) (by simpa using h1) (by simpa using h2);simpa using this
       have q2:=hh 0 (by simp) (by simp)
       simp only[List.getElem_cons_zero] at q2
       simp only[List.map_cons,List.sum_cons];omega
    exact this f.args _ b1 fun i h1 h2=>(b2 i h1 h2).2.2.1
   rw[a1] at s1
   omega
  ·rw [Fm.okT_iff] at hok ⊢
   refine⟨fun t ht=>a3 g natT hok.1 t ht,fun y hy=> ?_⟩
   obtain⟨i,hi,rfl⟩:=List.getElem_of_mem hy
   have hi':i<(y0 f.args).1.length:=hi
   have hc:Ze7 g (Fm.mk f.kind f.ty (uk f.terms).1 (y0 f.args).1)=Ze7 g f:=rfl
   rw[hc]
   exact(b2 i (by omega) hi').2.2.2 _ (hok.2 _ (List.getElem_mem (by omega)))
theorem Zud{f:Fm}(s:Tm)(hs:f.shape=true)(h:y1 0 f=0):f.lft 1 (-1)=f.put 0 s:=by
 refine Fm.re_congr f 0 fun p hp=> ?_
 have h1:=Zsu h p hp
 have h2:=Zq5 p hp
 refine re_congr p.1 0 fun q hq=> ?_
 have h3:=Zv9 h1 q hq
 rw[xr,Zad]
 have h4:=uj p.1 0 q hq
 by_cases h5:q.1-q.2≥1+p.2
 ·rw [if_pos h5,if_neg h3,if_pos (by omega)];rfl
 ·rw [if_neg h5,if_neg h3,if_neg (by omega)]
theorem Zuy{f:Fm}{g:List Ty}{σ:Ty}(hσ:σ.err=0)(hs:f.shape=true)(h:y1 0 f=0)(hok:f.okT (g++[σ])):(f.lft 1 (-1)).shape=true∧(f.lft 1 (-1)).size=f.size∧(f.lft 1 (-1)).okT g:=by
 have h1:=(Ty.err_iff σ).1 hσ
 obtain⟨d1,d2,_⟩:=Zst σ h1.1 h1.2
 rw[Zud (dfl σ) hs h]
 refine⟨Zcl (by omega) d2 hs,?_,?_⟩
 ·have:=Zbq 0 (dfl σ) d2 f hs 0
  have e:wu 0 (f.tms 0)=0:=h
  show(f.re (fun b t=>t.re (y5 (0+b) (dfl σ)) 0) 0).size=f.size
  rw[this,e,Nat.zero_mul];rfl
 ·have h3:=Zi0 0 (dfl σ) g σ d2 (d1 g) f [] 0 rfl hs (by simpa using hok)
  rw[List.append_nil] at h3
  exact h3
theorem Zw0{f:Fm}(hf:f.err=0)(h:(Zbn f).2=0):(Zbn f).1.shape=true∧(Zbn f).1.size≤16777216∧y1 0 (Zbn f).1=0∧(∀g,f.okT g→(Zbn f).1.okT g)∧(Zbn f).1.kind=f.kind:=by
 have s1:=(Fm.err_iff _).1 hf
 unfold Zbn at h ⊢
 by_cases h1:y1 0 f=0
 ·rw [if_pos h1];exact⟨s1.1,by simp only;omega,h1,fun g h=>h,rfl⟩
 rw[if_neg h1] at h ⊢
 by_cases h2:(xq f).2≠0
 ·rw [if_pos h2] at h;exact absurd h h2
 rw[if_neg h2] at h ⊢
 by_cases h3:y1 0 (xq f).1≠0
 ·rw [if_pos h3] at h;cases h
 rw[if_neg h3]
 obtain⟨k,a,b,c⟩:=Zni f (Decidable.not_not.1 h2) s1.1
 exact⟨a,by simp only;omega,Decidable.not_not.1 h3,c,k⟩
theorem Zix{r0 r1:Rs}(h0:RsOk r0)(h1:RsOk r1){k:Int}{c:Ck}(hc:c.ok):w8 c (Ybp k r0 r1 c):=by
 unfold Ybp
 split
 ·rename_i h;exact zn c h
 rename_i e0
 split
 ·exact zn c (by decide)
 rename_i e1
 split
 ·exact zn c (by decide)
 rename_i e2
 split
 ·rename_i h;exact zn c h
 rename_i e3
 split
 ·rename_i h;exact zn c h
 rename_i e4
 split
 ·exact zn c (by decide)
 intro _
 obtain⟨a1,a2,a3⟩:=h0.good hc (Decidable.not_not.1 e0)
 have s1:=(Fm.err_iff _).1 a1
 have hk:(r0 c).1.kind=kI k 15 7 5:=Decidable.not_not.1 e1
 have hk':4≤(r0 c).1.kind∧(r0 c).1.kind≤7:=by rw[hk,kI];split<;>omega
 obtain⟨x,e⟩:=Zhg s1.1 hk'
 have ex:x.err=0:=w4 a1 (by rw[e];simp[quF])
 rw[e] at a2
 have o1:=Zgj hk' a2
 have hx:(r0 c).1.args.getD 0 noFm=x:=by rw[e];rfl
 have hr:=wd (Decidable.not_not.1 e2)
 have hte:=Zey s1.1 hk'
 have hb:((c.below [(r0 c).1.ty]).with_ x).ok:=(hc.below (l:=[(r0 c).1.ty]) hr.1 (by simpa using hte)).with_ (by simpa [Ck.below] using hr.2) ex o1
 have hob:Zhi r1 c (r0 c).1=r1 ((c.below [(r0 c).1.ty]).with_ x):=by unfold Zhi;rw[hx]
 rw[hob] at e3 e4 ⊢
 obtain⟨b1,b2,b3⟩:=h1.good hb (Decidable.not_not.1 e3)
 obtain⟨f1,f2,f3,f4,_⟩:=Zw0 b1 (Decidable.not_not.1 e4)
 obtain⟨l1,l2,l3⟩:=Zuy hte f1 f3 (f4 _ b2)
 have hu:=UsesOk.out (n:=c.tys.length) (m:=1) (l:=(r1 ((c.below [(r0 c).1.ty]).with_ x)).2.1) (by simpa [Ck.below,Ck.with_] using b3)
 exact⟨l1,by simp only;omega,l3,.union a3.2 hu.2⟩
theorem Ydj(g:List Ty):zT.inf g=(natT,0):=by simp[zT,Tm.inf,Tm.infs,wq]
theorem Zzs(g:List Ty):nilM.inf g=(listT,0):=by simp[nilM,Tm.inf,Tm.infs,wq]
theorem Ziv{c:Ck}{t:Tm}(h:Zlx c t 1=0):t.err=0∧t.inf c.tys=(natT,0):=by
 obtain⟨a,b,d,e⟩:=Znt h
 exact⟨a,by rw[b,Zs8 d e]⟩
theorem Zk9{c:Ck}{t:Tm}(h:Zlx c t 2=0):t.err=0∧t.inf c.tys=(listT,0):=by
 obtain⟨a,b,d,e⟩:=Znt h
 exact⟨a,by rw[b,Zq0 d e]⟩
theorem Zbc:natT.err=0:=by decide
theorem Zde:listT.err=0:=by decide
theorem Ck.ok.one{c:Ck}(h:c.ok){s:Ty}(hs:s.err=0):∀x∈c.tys++[s],x.err=0:=fun x hx=>by
 rcases List.mem_append.1 hx with hx|hx
 ·exact h.all x hx
 ·simp only[List.mem_singleton] at hx;subst hx;exact hs
theorem Zr0{r0 r1:Rs}(h0:RsOk r0)(h1:RsOk r1){f:Fm}{t:Tm}{c:Ck}(hc:c.ok):w8 c (Ycm f t r0 r1 c):=by
 unfold Ycm
 split
 ·rename_i h;exact zn c h
 rename_i e0
 split
 ·rename_i h;exact zn c h
 rename_i e1
 split
 ·rename_i h;exact zn c h
 rename_i e2
 split
 ·exact zn c (by decide)
 rename_i e3
 split
 ·rename_i h;exact zn c h
 intro he
 obtain⟨f1,f2⟩:=ur (hc.one Zbc) (Decidable.not_not.1 e0)
 obtain⟨t1,t2⟩:=Ziv (Decidable.not_not.1 e1)
 obtain⟨p1,p2⟩:=Zgn f2 t2 he
 have hr:=wd (Decidable.not_not.1 e3)
 have hb:((c.below [natT]).with_ f).ok:=(hc.below (l:=[natT]) hr.1 (by simp[Zbc])).with_ (by simpa [Ck.below] using hr.2) f1 f2
 have hu:=UsesOk.out (n:=c.tys.length) (m:=1) (l:=(yz r1 ((c.below [natT]).with_ f) (f.lft 1 1) (sT (vT 0))).1) (by simpa [Ck.below,Ck.with_] using wi h1 hb (f.lft 1 1) (sT (vT 0)))
 refine⟨(yi p1).1,(yi p1).2,p2,.union (fun u hu=> ?_) hu.2⟩
 rcases mem_unionI.1 hu with h|h
 ·exact (vr t2).2 u h
 ·exact (wi h0 hc f zT).2 u h
theorem Zoj{r0 r1:Rs}(h0:RsOk r0)(h1:RsOk r1){f:Fm}{t:Tm}{c:Ck}(hc:c.ok):w8 c (Zrr f t r0 r1 c):=by
 unfold Zrr
 split
 ·rename_i h;exact zn c h
 rename_i e0
 split
 ·rename_i h;exact zn c h
 rename_i e1
 split
 ·rename_i h;exact zn c h
 rename_i e2
 split
 ·exact zn c (by decide)
 rename_i e3
 split
 ·rename_i h;exact zn c h
 intro he
 obtain⟨f1,f2⟩:=ur (hc.one Zde) (Decidable.not_not.1 e0)
 obtain⟨t1,t2⟩:=Zk9 (Decidable.not_not.1 e1)
 obtain⟨p1,p2⟩:=Zgn f2 t2 he
 have hr:=wd (Decidable.not_not.1 e3)
 have hl:=Zbf (g:=c.tys) (h:=[listT]) [natT] ((Fm.err_iff f).1 f1).1 f2
 have hb:((c.below [natT,listT]).with_ (f.lft 1 1)).ok:=(hc.below (l:=[natT,listT]) hr.1 (by simp[Zbc,Zde])).with_ (by simpa [Ck.below] using hr.2) (Zf4 f1 (by omega)) (by simpa [Ck.below] using hl)
 have hu:=UsesOk.out (n:=c.tys.length) (m:=2) (l:=(yz r1 ((c.below [natT,listT]).with_ (f.lft 1 1)) (f.lft 1 2) consM).1) (by simpa [Ck.below,Ck.with_] using wi h1 hb (f.lft 1 2) consM)
 refine⟨(yi p1).1,(yi p1).2,p2,.union (fun u hu=> ?_) hu.2⟩
 rcases mem_unionI.1 hu with h|h
 ·exact (vr t2).2 u h
 ·exact (wi h0 hc f nilM).2 u h
theorem Zos{t:Tm}{c:Ck}(hc:c.ok):w8 c (Zpe t c):=by
 intro he
 obtain⟨t1,t2⟩:=Ziv he
 have s:=(Tm.err_iff t).1 t1
 exact⟨ux s.1 s.1,by show(eqF t t).size≤_;rw[Zba];omega,eq_okT.2 ⟨t2,t2⟩,.nil _⟩
theorem Zkn{r0 r1:Rs}(h0:RsOk r0)(h1:RsOk r1){f:Fm}{c:Ck}(hc:c.ok):w8 c (Zkd f r0 r1 c):=by
 unfold Zkd
 split
 ·rename_i h;exact zn c h
 rename_i e0
 split
 ·rename_i h;exact zn c h
 rename_i e1
 split
 ·exact zn c (by decide)
 rename_i e2
 split
 ·rename_i h;exact zn c h
 intro he
 obtain⟨f1,f2⟩:=ur (hc.one Zbc) (Decidable.not_not.1 e0)
 obtain⟨a1,a2,a3⟩:=h0.good hc (Decidable.not_not.1 e1)
 obtain⟨x,y,e⟩:=Yag ((Fm.err_iff _).1 a1).1 (Decidable.not_not.1 e2)
 rw[e] at a2
 have hy:(r0 c).1.terms.getD 1 Zbo=y:=by rw[e];rfl
 rw[hy] at he ⊢
 obtain⟨p1,p2⟩:=Zgn f2 (eq_okT.1 a2).2 he
 exact⟨(yi p1).1,(yi p1).2,p2,wi h1 hc _ _⟩
theorem Zux(g:List Ty)(s u:Ty):appV.inf (g++[yw s u]++[s])=(u,0):=by
 refine Zep (a:=s) ?_ ?_
 ·rw [xz _ _ (by omega),if_neg (by simp;omega),Zab (by simp) (by simp),xp (by simp)];rfl
 ·rw [xz _ _ (by omega),if_neg (by simp;omega),xp (by simp)];rfl
theorem Zhy{r0:Rs}(h0:RsOk r0){c:Ck}(hc:c.ok):w8 c (Zgl r0 c):=by
 unfold Zgl
 split
 ·rename_i h;exact zn c h
 rename_i e0
 split
 ·exact zn c (by decide)
 rename_i e1
 split
 ·exact zn c (by decide)
 rename_i e2
 intro he
 obtain⟨a1,a2,a3⟩:=h0.good hc (Decidable.not_not.1 e0)
 rw[not_or,Decidable.not_not,Decidable.not_not] at e1
 have s1:=(Fm.err_iff _).1 a1
 obtain⟨x,e⟩:=Zhg s1.1 (by omega)
 have ex:x.err=0:=w4 a1 (by rw[e];simp[quF])
 have hx:(r0 c).1.args.getD 0 noFm=x:=by rw[e];rfl
 have hte:=Zey s1.1 (by omega)
 rw[hx] at e1
 have s2:=(Fm.err_iff _).1 ex
 obtain⟨y,e'⟩:=Zhg s2.1 (by omega)
 have hte':=Zey s2.1 (by omega)
 have ey:y.err=0:=w4 ex (by rw[e'];simp[quF])
 have hy:x.args.getD 0 noFm=y:=by rw[e'];rfl
 rw[e] at a2
 have o1:=Zgj (by omega) a2
 rw[e'] at o1
 have o2:=Zgj (by omega) o1
 have hcf:chF (r0 c).1=yw (r0 c).1.ty x.ty:=by unfold chF;rw[hx]
 have hcb:chB (r0 c).1=Ze2 (y.lft 2 1) appV:=by unfold chB;rw[hx,hy]
 rw[hcf] at e2 ⊢
 rw[hcb] at he ⊢
 have hl:=Zbf (g:=c.tys) (h:=[(r0 c).1.ty,x.ty]) [yw (r0 c).1.ty x.ty] ((Fm.err_iff y).1 ey).1 (by simpa using o2)
 have hl':(y.lft 2 1).okT (c.tys++[yw (r0 c).1.ty x.ty]++[(r0 c).1.ty]++[x.ty]):=by simpa using hl
 obtain⟨p1,p2⟩:=Zgn hl' (Zux _ _ _) he
 have s3:=(Fm.err_iff _).1 p1
 refine⟨v6 (by omega) (Decidable.not_not.1 e2) (v6 (by omega) hte s3.1),by simp only[Zcf];omega,Zb4 (by omega) (Zb4 (by omega) p2),a3⟩
def PfOk(p:Pf):Prop:=p.shape=true∧p.small=true
theorem Yce{l:List Pf}{i:Nat}(hi:i<l.length):(l.map Zai).getD i (fun _=>ya 0)=Zai l[i]:=by
 rw[Zgy (by simpa using hi),List.getElem_map]
theorem yl{p:Pf}(h:p.shape=true):p.head=true∧(∀t∈p.terms,t.shape=true)∧(∀f∈p.forms,f.shape=true)∧∀x∈p.args,x.shape=true:=by
 rw[p.shape_eq] at h
 simp only[Bool.and_eq_true,List.all_eq_true] at h
 exact⟨h.1.1.1,h.1.1.2,h.1.2,h.2⟩
theorem Zso{t:Ty}(h:t.ok=true):t.err=0:=by
 simp only[Ty.ok,Bool.and_eq_true,decide_eq_true_eq] at h
 exact(Ty.err_iff t).2 h
theorem Zwy{p:Pf}(h:p.head=true):∃nd,ndP p.kind=some nd∧p.terms.length=nd.terms∧p.forms.length=nd.forms∧p.args.length=nd.args∧0≤p.index∧(nd.typ=true→p.ty.err=0)∧1≤p.kind∧p.kind≤20:=by
 unfold Pf.head at h
 cases hn:ndP p.kind with
 |none=>rw[hn] at h;cases h
 |some nd=>
  rw[hn] at h
  have hk:1≤p.kind∧p.kind≤20:=by
   refine Decidable.byContradiction fun hc=> ?_
   have:ndP p.kind=none:=by
    unfold ndP
    repeat rw[if_neg (by omega)]
   rw[this] at hn;cases hn
  simp only[Bool.and_eq_true,decide_eq_true_eq,beq_iff_eq] at h
  refine⟨nd,rfl,by omega,by omega,by omega,by omega,fun ht=> ?_,hk⟩
  simp only[ht,if_true] at h
  exact Zso h.2
theorem Zil(p:Pf):p.shape=true→RsOk (Zai p):=by
 induction p using Pf.ind with
 |h p ih=>
  intro hs c hc
  rw[Zmy]
  refine Zzc ?_
  obtain⟨h1,h2,h3,h4⟩:=yl hs
  obtain⟨nd,n1,n2,n3,n4,n5,n6,n7⟩:=Zwy h1
  have hrs:∀i,i<p.args.length→RsOk ((p.args.map Zai).getD i fun _=>ya 0):=fun i hi=>by
   rw[Yce hi];exact ih _ (List.getElem_mem hi) (h4 _ (List.getElem_mem hi))
  have hk:p.kind=1∨p.kind=2∨p.kind=3∨p.kind=4∨p.kind=5∨p.kind=6∨p.kind=7∨p.kind=8∨p.kind=9∨p.kind=10∨p.kind=11∨p.kind=12∨p.kind=13∨p.kind=14∨p.kind=15∨p.kind=16∨p.kind=17∨p.kind=18∨p.kind=19∨p.kind=20:=by omega
  unfold Ziy
  rcases hk with e|e|e|e|e|e|e|e|e|e|e|e|e|e|e|e|e|e|e|e<;>rw[e] at n1 ⊢<;>simp only[ndP] at n1<;>(try(simp at n1))<;>(try subst n1)<;>simp only[reduceIte,Int.reduceEq,or_false,false_or,or_true,true_or]<;>simp only at n4 n6
  ·exact Zsy hc n5
  ·exact Zun hc n5
  ·exact Zsz (hrs 0 (by omega)) (hrs 1 (by omega)) hc
  ·exact Zik (hrs 0 (by omega)) hc (by decide)
  ·exact Zik (hrs 0 (by omega)) hc (by decide)
  ·exact Zn4 (hrs 0 (by omega)) hc
  ·exact Zoc (hrs 0 (by omega)) (hrs 1 (by omega)) hc
  ·exact Zi6 (hrs 0 (by omega)) (n6 trivial) hc
  ·exact Zop (hrs 0 (by omega)) hc
  ·exact Znv (hrs 0 (by omega)) hc
  ·exact Zix (hrs 0 (by omega)) (hrs 1 (by omega)) hc
  ·exact Zi6 (hrs 0 (by omega)) (n6 trivial) hc
  ·exact Zop (hrs 0 (by omega)) hc
  ·exact Znv (hrs 0 (by omega)) hc
  ·exact Zix (hrs 0 (by omega)) (hrs 1 (by omega)) hc
  ·exact Zr0 (hrs 0 (by omega)) (hrs 1 (by omega)) hc
  ·exact Zoj (hrs 0 (by omega)) (hrs 1 (by omega)) hc
  ·exact Zos hc
  ·exact Zkn (hrs 0 (by omega)) (hrs 1 (by omega)) hc
  ·exact Zhy (hrs 0 (by omega)) hc
theorem ln1{α:Type}{l:List α}(h:l.length=1):∃a,l=[a]:=by
 match l,h with
 |[a],_=>exact⟨a,rfl⟩
theorem ln2{α:Type}{l:List α}(h:l.length=2):∃a b,l=[a,b]:=by
 match l,h with
 |[a,b],_=>exact⟨a,b,rfl⟩
theorem ln0{α:Type}{l:List α}(h:l.length=0):l=[]:=List.eq_nil_of_length_eq_zero h
theorem Zwd{p:Pf}(hs:p.shape=true){c:Ck}(hc:c.ok):w8 c (Ziy p.kind p.index p.ty p.terms p.forms (p.args.map Zai) c):=by
 obtain⟨h1,h2,h3,h4⟩:=yl hs
 obtain⟨nd,n1,n2,n3,n4,n5,n6,n7⟩:=Zwy h1
 have hrs:∀i,i<p.args.length→RsOk ((p.args.map Zai).getD i fun _=>ya 0):=fun i hi=>by
  rw[Yce hi];exact Zil _ (h4 _ (List.getElem_mem hi))
 have hk:p.kind=1∨p.kind=2∨p.kind=3∨p.kind=4∨p.kind=5∨p.kind=6∨p.kind=7∨p.kind=8∨p.kind=9∨p.kind=10∨p.kind=11∨p.kind=12∨p.kind=13∨p.kind=14∨p.kind=15∨p.kind=16∨p.kind=17∨p.kind=18∨p.kind=19∨p.kind=20:=by omega
 unfold Ziy
 rcases hk with e|e|e|e|e|e|e|e|e|e|e|e|e|e|e|e|e|e|e|e<;>rw[e] at n1 ⊢<;>simp only[ndP] at n1<;>(try(simp at n1))<;>(try subst n1)<;>simp only[reduceIte,Int.reduceEq,or_false,false_or,or_true,true_or]<;>simp only at n4 n6
 ·exact Zsy hc n5
 ·exact Zun hc n5
 ·exact Zsz (hrs 0 (by omega)) (hrs 1 (by omega)) hc
 ·exact Zik (hrs 0 (by omega)) hc (by decide)
 ·exact Zik (hrs 0 (by omega)) hc (by decide)
 ·exact Zn4 (hrs 0 (by omega)) hc
 ·exact Zoc (hrs 0 (by omega)) (hrs 1 (by omega)) hc
 ·exact Zi6 (hrs 0 (by omega)) (n6 trivial) hc
 ·exact Zop (hrs 0 (by omega)) hc
 ·exact Znv (hrs 0 (by omega)) hc
 ·exact Zix (hrs 0 (by omega)) (hrs 1 (by omega)) hc
 ·exact Zi6 (hrs 0 (by omega)) (n6 trivial) hc
 ·exact Zop (hrs 0 (by omega)) hc
 ·exact Znv (hrs 0 (by omega)) hc
 ·exact Zix (hrs 0 (by omega)) (hrs 1 (by omega)) hc
 ·exact Zr0 (hrs 0 (by omega)) (hrs 1 (by omega)) hc
 ·exact Zoj (hrs 0 (by omega)) (hrs 1 (by omega)) hc
 ·exact Zos hc
 ·exact Zkn (hrs 0 (by omega)) (hrs 1 (by omega)) hc
 ·exact Zhy (hrs 0 (by omega)) hc
theorem Zki(f:Fm):(f.args.getD 0 noFm).full≤f.full+2:=by
 cases h:f.args with
 |nil=>exact Nat.le_trans (by decide:noFm.full≤2) (by omega)
 |cons x l=>
  have:=zb Fm.full (l:=f.args) (t:=x) (by rw[h];simp)
  have:=f.full_eq
  simp only[List.getD_cons_zero]
  omega
def Zur(lems:List Fm)(tys:List Ty)(hyps:List Fm):Int:=
 if lems.length>32 then 3 else if y9 (ym []) lems≠0 then y9 (ym []) lems else if y6 tys≠0 then y6 tys
 else if hyps.length>16 then 3 else y9 (ym tys) hyps
theorem Zz0{lems:List Fm}{tys:List Ty}{hyps:List Fm}(h:Zur lems tys hyps=0):(Ck.mk lems tys hyps).ok:=by
 unfold Zur at h
 by_cases h1:lems.length>32
 ·rw [if_pos h1] at h;cases h
 rw[if_neg h1] at h
 by_cases h2:y9 (ym []) lems≠0
 ·rw [if_pos h2] at h;exact absurd h h2
 rw[if_neg h2] at h
 by_cases h3:y6 tys≠0
 ·rw [if_pos h3] at h;exact absurd h h3
 rw[if_neg h3] at h
 by_cases h4:hyps.length>16
 ·rw [if_pos h4] at h;cases h
 rw[if_neg h4] at h
 exact⟨Decidable.not_not.1 h3,by simp only;omega,by simp only;omega,fun f hf=>xo (u6 h f hf),fun f hf=>xo (u6 (Decidable.not_not.1 h2) f hf)⟩
theorem Zy9{c:Ck}(h:c.ok):Zur c.lems c.tys c.hyps=0:=by
 unfold Zur
 rw[if_neg (by have:=h.nl;omega),if_neg,if_neg (by simp[h.ctx]),if_neg (by have:=h.nh;omega)]
 ·exact Zcj fun f hf=>Zgv (h.hyps f hf).2 (h.hyps f hf).1 h.ctx
 ·rw [Zcj fun f hf=>Zgv (h.lems f hf).2 (h.lems f hf).1 rfl];simp
def Ze5(lems:List Fm)(tys:List Ty)(hyps:List Fm)(p:Pf):Res:=
 if Zur lems tys hyps≠0 then ya (Zur lems tys hyps) else if p.err≠0 then ya p.err else Zai p ⟨lems,tys,hyps⟩
def Ydx(lems:List Fm)(tys:List Ty)(hyps:List Fm)(p:Pf)(f:Fm):Int:=
 if(Ze5 lems tys hyps p).2.2≠0 then(Ze5 lems tys hyps p).2.2 else if ym tys f≠0 then ym tys f else Zqh (Ze5 lems tys hyps p).1 f
def fvK(k:Int):Int:=if k=16∨k=17∨k=19 then 1 else 0
def vaK(k:Int):Int:=if k=17 then 2 else if k=8∨k=12∨k=11∨k=15∨k=16 then 1 else 0
def hyK(k:Int):Int:=if k=6∨k=11∨k=15∨k=16∨k=17 then 1 else 0
def ruC(k:Int):List V:=match ndP k with
 |some n=>[.bool n.index,.bool n.typ,.i n.terms,.i n.forms,.i n.args,.i (fvK k),.i (vaK k),.i (hyK k)]
 |none=>[.bool false,.bool false,.i 0,.i 0,.i 0,.i 0,.i 0,.i 0]
abbrev Tl:=Nat×Bool
def tlT:List Tm→Tl→Bool×Tl
 |[],s=>(true,s)
 |t::l,s=>if t.err=2 then(false,(s.1+t.num.toNat,s.2||t.err==4)) else tlT l (s.1+t.num.toNat,s.2||t.err==4)
def tlF:List Fm→Tl→Bool×Tl
 |[],s=>(true,s)
 |t::l,s=>if t.err=2 then(false,(s.1+t.num.toNat,s.2||t.err==4)) else tlF l (s.1+t.num.toNat,s.2||t.err==4)
def Pf.hdA(p:Pf):Bool:=match ndP p.kind with
 |none=>false
 |some n=>p.terms.length==n.terms&&p.forms.length==n.forms&&p.args.length==n.args&&decide (0≤p.index)&&(n.index||p.index==0)
def Pf.hdT(p:Pf):Bool:=match ndP p.kind with
 |none=>false
 |some n=>if n.typ=true then p.ty.ok else p.ty.isNo
mutual
def tlP:Pf→Tl→Bool×Tl
 | .mk k i h ts fs zs,s=>
   if Pf.hdA (.mk k i h ts fs zs)=false then(false,s) else if Pf.hdT (.mk k i h ts fs zs)=false then(false,(s.1+1,s.2))
   else if(tlT ts (s.1+1,s.2)).1=false then tlT ts (s.1+1,s.2)
   else if(tlF fs (tlT ts (s.1+1,s.2)).2).1=false then tlF fs (tlT ts (s.1+1,s.2)).2
   else Zas zs (tlF fs (tlT ts (s.1+1,s.2)).2).2
def Zas:List Pf→Tl→Bool×Tl
 |[],s=>(true,s)
 |p::l,s=>if(tlP p s).1=false then tlP p s else Zas l (tlP p s).2
end
theorem Zx1(p:Pf)(s:Tl):tlP p s=if p.hdA=false then(false,s) else if p.hdT=false then(false,(s.1+1,s.2))
 else if(tlT p.terms (s.1+1,s.2)).1=false then tlT p.terms (s.1+1,s.2)
 else if(tlF p.forms (tlT p.terms (s.1+1,s.2)).2).1=false then tlF p.forms (tlT p.terms (s.1+1,s.2)).2
 else Zas p.args (tlF p.forms (tlT p.terms (s.1+1,s.2)).2).2:=by
 cases p;simp only[tlP];rfl
theorem Zq3:∀(l m:List Tm) (s:Tl),(tlT l s).1=true→tlT (l++m) s=tlT m (tlT l s).2
 |[],m,s,_=>rfl
 |t::l,m,s,h=>by
  simp only[tlT,List.cons_append] at h ⊢
  by_cases e:t.err=2
  ·rw [if_pos e] at h;cases h
  ·rw [if_neg e] at h ⊢;rw[if_neg e];exact Zq3 l m _ h
theorem Zub:∀(l m:List Fm) (s:Tl),(tlF l s).1=true→tlF (l++m) s=tlF m (tlF l s).2
 |[],m,s,_=>rfl
 |t::l,m,s,h=>by
  simp only[tlF,List.cons_append] at h ⊢
  by_cases e:t.err=2
  ·rw [if_pos e] at h;cases h
  ·rw [if_neg e] at h ⊢;rw[if_neg e];exact Zub l m _ h
theorem Zmu:∀(l m:List Pf) (s:Tl),(Zas l s).1=true→Zas (l++m) s=Zas m (Zas l s).2
 |[],m,s,_=>rfl
 |t::l,m,s,h=>by
  simp only[Zas,List.cons_append] at h ⊢
  by_cases e:(tlP t s).1=false
  ·rw [if_pos e] at h;rw[e] at h;cases h
  ·rw [if_neg e] at h ⊢;rw[if_neg e];exact Zmu l m _ h
theorem Zme{α:Type}{l:List α}{m:Nat}(hm:m<l.length):l=l.take m++l[m]::l.drop (m+1):=by
 rw[←List.drop_eq_getElem_cons hm,List.take_append_drop]
theorem Znb{l:List Tm}{m:Nat}{s:Tl}(hm:m<l.length)(h:(tlT (l.take m) s).1=true):tlT (l.take (m+1)) s=tlT [l[m]] (tlT (l.take m) s).2:=by
 rw[List.take_succ_eq_append_getElem hm,Zq3 _ _ _ h]
theorem Zoo{l:List Tm}{m:Nat}{s:Tl}(hm:m<l.length)(h:(tlT (l.take m) s).1=true)(he:l[m].err=2):tlT l s=(false,((tlT (l.take m) s).2.1+l[m].num.toNat,(tlT (l.take m) s).2.2||l[m].err==4)):=by
 have e:tlT l s=tlT (l.take m++l[m]::l.drop (m+1)) s:=by rw[←Zme hm]
 rw[e,Zq3 _ _ _ h,tlT,if_pos he]
theorem Zo4{l:List Fm}{m:Nat}{s:Tl}(hm:m<l.length)(h:(tlF (l.take m) s).1=true):tlF (l.take (m+1)) s=tlF [l[m]] (tlF (l.take m) s).2:=by
 rw[List.take_succ_eq_append_getElem hm,Zub _ _ _ h]
theorem Zn5{l:List Fm}{m:Nat}{s:Tl}(hm:m<l.length)(h:(tlF (l.take m) s).1=true)(he:l[m].err=2):tlF l s=(false,((tlF (l.take m) s).2.1+l[m].num.toNat,(tlF (l.take m) s).2.2||l[m].err==4)):=by
 have e:tlF l s=tlF (l.take m++l[m]::l.drop (m+1)) s:=by rw[←Zme hm]
 rw[e,Zub _ _ _ h,tlF,if_pos he]
theorem Zku{l:List Pf}{m:Nat}{s:Tl}(hm:m<l.length)(h:(Zas (l.take m) s).1=true):Zas (l.take (m+1)) s=Zas [l[m]] (Zas (l.take m) s).2:=by
 rw[List.take_succ_eq_append_getElem hm,Zmu _ _ _ h]
theorem Znc(p:Pf)(s:Tl):Zas [p] s=tlP p s:=by
 simp only[Zas]
 cases h:(tlP p s).1 with
 |false=>simp
 |true=>simp only[Bool.true_eq_false,if_false];rw[←h]
theorem Zkb{l:List Pf}{m:Nat}{s:Tl}(hm:m<l.length)(h:(Zas (l.take m) s).1=true)(he:(tlP l[m] (Zas (l.take m) s).2).1=false):Zas l s=tlP l[m] (Zas (l.take m) s).2:=by
 have e:Zas l s=Zas (l.take m++l[m]::l.drop (m+1)) s:=by rw[←Zme hm]
 rw[e,Zmu _ _ _ h,Zas,if_pos he]
theorem Zer(t:Tm):(t.err=0∧t.shape=true∧t.size≤4096∧t.num=t.size)∨(t.err=2∧t.shape=false∧t.num=0)∨(t.err=4∧t.shape=true∧¬t.size≤4096∧t.num=0):=by
 unfold Tm.num Tm.err
 cases h:t.shape with
 |false=>simp
 |true=>
  by_cases h2:t.size>4096
  ·simp [h2]
  ·simp [h2];omega
theorem Zo8(t:Fm):(t.err=0∧t.shape=true∧t.size≤4096∧t.num=t.size)∨(t.err=2∧t.shape=false∧t.num=0)∨(t.err=4∧t.shape=true∧¬t.size≤4096∧t.num=0):=by
 unfold Fm.num Fm.err
 cases h:t.shape with
 |false=>simp
 |true=>
  by_cases h2:t.size>4096
  ·simp [h2]
  ·simp [h2];omega
theorem Zh7:∀(l:List Tm) (s:Tl),(tlT l s).1=l.all Tm.shape∧(tlT l s).2.1≤s.1+(l.map Tm.size).sum∧
 (l.all Tm.shape=true→(tlT l s).2.2=(s.2|| !(l.all fun t=>decide (t.size≤4096)))∧((l.all fun t=>decide (t.size≤4096))=true→(tlT l s).2.1=s.1+(l.map Tm.size).sum))
 |[],s=>by simp[tlT]
 |t::l,s=>by
  have ih:=Zh7 l (s.1+t.num.toNat,s.2||t.err==4)
  simp only[tlT,List.all_cons,List.map_cons,List.sum_cons]
  rcases Zer t with⟨h1,h2,h3,h4⟩|⟨h1,h2,h3⟩|⟨h1,h2,h3,h4⟩
  ·rw [if_neg (by omega)]
   simp only[h1,h2,h3,h4,decide_true,Bool.true_and] at ih ⊢
   simp only[Int.toNat_natCast] at ih ⊢
   refine⟨ih.1,by omega,fun h=>⟨?_,fun h'=> ?_⟩⟩
   ·rw [(ih.2.2 h).1];simp
   ·rw [(ih.2.2 h).2 h'];omega
  ·rw [if_pos h1]
   simp[h2,h3]
  ·rw [if_neg (by omega)]
   simp only[h1,h2,h3,h4,decide_false,Bool.true_and,Bool.false_and] at ih ⊢
   refine⟨ih.1,by have:=ih.2.1;simp only[Int.toNat_zero,Nat.add_zero] at this;omega,fun h=>⟨?_,fun h'=>by cases h'⟩⟩
   rw[(ih.2.2 h).1];simp
theorem Zhs:∀(l:List Fm) (s:Tl),(tlF l s).1=l.all Fm.shape∧(tlF l s).2.1≤s.1+(l.map Fm.size).sum∧
 (l.all Fm.shape=true→(tlF l s).2.2=(s.2|| !(l.all fun t=>decide (t.size≤4096)))∧((l.all fun t=>decide (t.size≤4096))=true→(tlF l s).2.1=s.1+(l.map Fm.size).sum))
 |[],s=>by simp[tlF]
 |t::l,s=>by
  have ih:=Zhs l (s.1+t.num.toNat,s.2||t.err==4)
  simp only[tlF,List.all_cons,List.map_cons,List.sum_cons]
  rcases Zo8 t with⟨h1,h2,h3,h4⟩|⟨h1,h2,h3⟩|⟨h1,h2,h3,h4⟩
  ·rw [if_neg (by omega)]
   simp only[h1,h2,h3,h4,decide_true,Bool.true_and] at ih ⊢
   simp only[Int.toNat_natCast] at ih ⊢
   refine⟨ih.1,by omega,fun h=>⟨?_,fun h'=> ?_⟩⟩
   ·rw [(ih.2.2 h).1];simp
   ·rw [(ih.2.2 h).2 h'];omega
  ·rw [if_pos h1]
   simp[h2,h3]
  ·rw [if_neg (by omega)]
   simp only[h1,h2,h3,h4,decide_false,Bool.true_and,Bool.false_and] at ih ⊢
   refine⟨ih.1,by have:=ih.2.1;simp only[Int.toNat_zero,Nat.add_zero] at this;omega,fun h=>⟨?_,fun h'=>by cases h'⟩⟩
   rw[(ih.2.2 h).1];simp
theorem Zp2(p:Pf):p.head=(p.hdA&&p.hdT):=by
 unfold Pf.head Pf.hdA Pf.hdT
 cases ndP p.kind with
 |none=>rfl
 |some n=>simp[Bool.and_assoc]
theorem Zl8(l:List Pf)(ih:∀p∈l,∀s:Tl,(tlP p s).1=p.shape∧(tlP p s).2.1≤s.1+p.size∧(p.shape=true→(tlP p s).2.2=(s.2|| !p.small)∧(p.small=true→(tlP p s).2.1=s.1+p.size))):
 ∀s:Tl,(Zas l s).1=l.all Pf.shape∧(Zas l s).2.1≤s.1+(l.map Pf.size).sum∧(l.all Pf.shape=true→(Zas l s).2.2=(s.2|| !(l.all Pf.small))∧(l.all Pf.small=true→(Zas l s).2.1=s.1+(l.map Pf.size).sum)):=by
 induction l with
 |nil=>intro s;simp[Zas]
 |cons p l ihl=>
  intro s
  obtain⟨a1,a2,a3⟩:=ih p (by simp) s
  have b:=ihl (fun q hq=>ih q (by simp[hq])) (tlP p s).2
  simp only[Zas,List.all_cons,List.map_cons,List.sum_cons]
  cases hp:p.shape with
  |false=>
   rw[hp] at a1
   rw[if_pos a1]
   exact⟨by rw[a1];rfl,by omega,fun h=>by cases h⟩
  |true=>
   rw[hp] at a1
   rw[if_neg (by simp[a1])]
   obtain⟨c1,c2⟩:=a3 hp
   refine⟨by rw[b.1];simp,by omega,fun h=> ?_⟩
   simp only[Bool.true_and] at h
   obtain⟨d1,d2⟩:=b.2.2 h
   refine⟨by rw[d1,c1];cases s.2<;>cases p.small<;>simp,fun h'=> ?_⟩
   simp only[Bool.and_eq_true] at h'
   rw[d2 h'.2,c2 h'.1];omega
theorem Zqr(p:Pf):∀s:Tl,(tlP p s).1=p.shape∧(tlP p s).2.1≤s.1+p.size∧(p.shape=true→(tlP p s).2.2=(s.2|| !p.small)∧(p.small=true→(tlP p s).2.1=s.1+p.size)):=by
 induction p using Pf.ind with
 |h p ih=>
  intro s
  have hsz:=p.size_eq
  rw[Zx1,p.shape_eq,p.small_eq,Zp2]
  by_cases h1:p.hdA=false
  ·rw [if_pos h1,h1];exact⟨rfl,by simp only;omega,fun h=>by simp at h⟩
  rw[if_neg h1]
  rw[Bool.not_eq_false] at h1
  by_cases h2:p.hdT=false
  ·rw [if_pos h2,h2];exact⟨by simp,by simp only;omega,fun h=>by simp at h⟩
  rw[if_neg h2]
  rw[Bool.not_eq_false] at h2
  rw[h1,h2]
  have t:=Zh7 p.terms (s.1+1,s.2)
  have f:=Zhs p.forms (tlT p.terms (s.1+1,s.2)).2
  have a:=Zl8 p.args ih (tlF p.forms (tlT p.terms (s.1+1,s.2)).2).2
  by_cases h3:(tlT p.terms (s.1+1,s.2)).1=false
  ·rw [if_pos h3]
   have:p.terms.all Tm.shape=false:=by rw[←t.1];exact h3
   exact⟨by rw[h3,this];rfl,by omega,fun h=>by simp[this] at h⟩
  rw[if_neg h3]
  rw[Bool.not_eq_false,t.1] at h3
  by_cases h4:(tlF p.forms (tlT p.terms (s.1+1,s.2)).2).1=false
  ·rw [if_pos h4]
   have:p.forms.all Fm.shape=false:=by rw[←f.1];exact h4
   exact⟨by rw[h4,h3,this];rfl,by omega,fun h=>by simp[this] at h⟩
  rw[if_neg h4]
  rw[Bool.not_eq_false,f.1] at h4
  obtain⟨t1,t2⟩:=t.2.2 h3
  obtain⟨f1,f2⟩:=f.2.2 h4
  refine⟨by rw[a.1,h3,h4];rfl,by omega,fun h=> ?_⟩
  have h5:p.args.all Pf.shape=true:=by simpa [h3,h4] using h
  obtain⟨a1,a2⟩:=a.2.2 h5
  refine⟨?_,fun h'=> ?_⟩
  ·rw [a1,f1,t1]
   cases s.2<;>cases(p.terms.all fun t=>decide (t.size≤4096))<;>cases(p.forms.all fun t=>decide (t.size≤4096))<;>cases p.args.all Pf.small<;>rfl
  ·simp only[Bool.and_eq_true] at h'
   rw[a2 h'.2,f2 h'.1.2,t2 h'.1.1,hsz]
   omega
theorem Zo3{p:Pf}(hs:p.shape=true):∃nd,ndP p.kind=some nd∧p.terms.length=nd.terms∧p.forms.length=nd.forms∧p.args.length=nd.args∧0≤p.index∧(nd.index=false→p.index=0)∧(nd.typ=true→p.ty.err=0)∧(nd.typ=false→p.ty= .mk 0 [])∧1≤p.kind∧p.kind≤20:=by
 have h:=(yl hs).1
 obtain⟨nd,n1,n2,n3,n4,n5,n6,n7⟩:=Zwy h
 refine⟨nd,n1,n2,n3,n4,n5,?_,n6,?_,n7⟩
 ·intro hi
  unfold Pf.head at h
  rw[n1] at h
  simp only[Bool.and_eq_true,decide_eq_true_eq,beq_iff_eq,Bool.or_eq_true] at h
  rcases h.1.2 with h2|h2
  ·rw [hi] at h2;cases h2
  ·exact h2
 ·intro hi
  unfold Pf.head at h
  rw[n1] at h
  simp only[Bool.and_eq_true,decide_eq_true_eq,beq_iff_eq,Bool.or_eq_true] at h
  have h2:=h.2
  rw[if_neg (by simp[hi])] at h2
  exact Ty.no_of h2
def Pf.num(p:Pf):Int:=if p.err=0 then p.size else 0
theorem Zxf{c:Ck}{s:Tm}(hk:Zlx c s 1=0)(he:(eqF s s).err=0):Zai (y4 s) c=(eqF s s,[],0):=by
 rw[Zmy]
 have e:Ziy (y4 s).kind (y4 s).index (y4 s).ty (y4 s).terms (y4 s).forms ((y4 s).args.map Zai) c=Zpe s c:=rfl
 rw[e]
 unfold Zpe Yax
 rw[hk,if_neg (by simp),if_neg (by simp[he])]
 simp only
 split<;>rfl
def Zbk(f:Fm)(p q:Pf):Pf:= .mk 19 0 (.mk 0 []) [] [f] [p,q]
theorem Yaa{c:Ck}(hc:c.ok){s:Tm}(he:s.err=0)(hi:s.inf c.tys=(natT,0)):Zlx c s 1=0:=by
 have e:yy c.tys s=(natT,0):=by
  unfold yy Zau
  rw[if_neg (by simp[hc.ctx]),if_neg (by simp[he]),hi]
 unfold Zlx
 rw[e];rfl
structure NumOk (g:List Ty) (s:Tm):Prop where
 err:s.err=0
 inf:s.inf g=(natT,0)
 size:s.size≤900
theorem NumOk.shape{g:List Ty}{s:Tm}(h:NumOk g s):s.shape=true:=((Tm.err_iff s).1 h.err).1
theorem NumOk.near{g:List Ty}{s:Tm}(h:NumOk g s)(hg:g.length≤1000):s.near=true:=Zg4 (by rw[h.inf]) h.shape (by have:=h.size;omega)
theorem Zsl{a b:Tm}(ha:a.shape=true)(hb:b.shape=true)(hz:a.size+b.size≤4095):(eqF a b).err=0:=
 (Fm.err_iff _).2 ⟨ux ha hb,by rw[Zba];omega⟩
theorem Zxv(g:List Ty)(u:Ty):(vT 0).inf (g++[u])=(u,0):=by
 rw[xz _ _ (by omega),if_neg (by simp)]
 have:Zjz (g++[u]) 0=Zjz [u] 0:=xp (by simp)
 simp only[Int.toNat_zero]
 rw[this];rfl
theorem Yek(a b:Tm):wu 0 ((eqF a b).tms 0)=cnt 0 (a.vars 0)+cnt 0 (b.vars 0):=by
 simp[eqF,Fm.tms,Fm.tmss,wu]
theorem Ydp{a b:Tm}(ha:a.near=true)(hb:b.near=true):(eqF a b).near=true:=by
 unfold Fm.near
 simp[eqF,Fm.tms,Fm.tmss,ha,hb]
structure SideOk (g:List Ty) (a b:Tm):Prop where
 sa:a.shape=true
 sb:b.shape=true
 ia:a.inf (g++[natT])=(natT,0)
 ib:b.inf (g++[natT])=(natT,0)
 sz:a.size+b.size≤3000
theorem SideOk.err{g:List Ty}{a b:Tm}(h:SideOk g a b):(eqF a b).err=0:=Zsl h.sa h.sb (by have:=h.sz;omega)
theorem SideOk.near{g:List Ty}{a b:Tm}(h:SideOk g a b)(hg:g.length≤16):(eqF a b).near=true:=
 Ydp (Zg4 (by rw[h.ia]) h.sa (by have:=h.sz;simp;omega)) (Zg4 (by rw[h.ib]) h.sb (by have:=h.sz;simp;omega))
theorem SideOk.put{g:List Ty}{a b s:Tm}(h:SideOk g a b)(hg:g.length≤16)(hs:NumOk g s)(hz:1+a.size+b.size+(cnt 0 (a.vars 0)+cnt 0 (b.vars 0))*s.size≤4096):yo (eqF a b) 0 s=0:=by
 unfold yo
 rw[if_neg (by simp[h.err]),if_neg (by omega),if_neg (by simp[hs.err]),if_neg (by simp[h.near hg,hs.near (by omega)]),if_neg]
 rw[Yek,Zba]
 have hp:=s.size_pos
 have hm:(cnt 0 (a.vars 0)+cnt 0 (b.vars 0))*(s.size-1)≤(cnt 0 (a.vars 0)+cnt 0 (b.vars 0))*s.size:=Nat.mul_le_mul_left _ (by omega)
 have e:(((cnt 0 (a.vars 0)+cnt 0 (b.vars 0):Nat):Int)*((s.size:Int)-1))=(((cnt 0 (a.vars 0)+cnt 0 (b.vars 0))*(s.size-1):Nat):Int):=by
  rw[Int.natCast_mul];congr 1;omega
 rw[e]
 omega
def symP(s:Tm)(p:Pf):Pf:=Zbk (eqF (vT 0) (s.re (zq 0 1) 0)) p (y4 s)
def transP(s:Tm)(p q:Pf):Pf:=Zbk (eqF (s.re (zq 0 1) 0) (vT 0)) q p
def Zkw(g s:Tm)(p:Pf):Pf:=Zbk (eqF (apT (g.re (zq 0 1) 0) (s.re (zq 0 1) 0)) (apT (g.re (zq 0 1) 0) (vT 0))) p (y4 (apT g s))
def injP(s:Tm)(p:Pf):Pf:=Zbk (eqF (s.re (zq 0 1) 0) (apT predT (vT 0))) p (y4 s)
def Zqu(s t n:Tm):Tm:= .mk 6 0 natT [s,lmT natT (lmT natT (t.re (zq 0 2) 0)),n]
def Zjl(p:Pf):Pf:=Zbk (eqF zT (Zqu zT (sT zT) (vT 0))) p (y4 zT)
theorem NumOk.refl{c:Ck}(hc:c.ok){s:Tm}(h:NumOk c.tys s):Zai (y4 s) c=(eqF s s,[],0):=
 Zxf (Yaa hc h.err h.inf) (Zsl h.shape h.shape (by have:=h.size;omega))
structure FunOk (g:List Ty) (f:Tm):Prop where
 err:f.err=0
 inf:f.inf g=(yw natT natT,0)
 size:f.size≤500
def Dk.fms:Nat→Dk→List Ty→List Fm×Dk
 |0,d,_=>([],d)
 |n+1,d,g=>((Dk.fm 2 d g).1::(Dk.fms n (Dk.fm 2 d g).2 g).1,(Dk.fms n (Dk.fm 2 d g).2 g).2)
theorem Dk.fms_snoc:∀(n:Nat) (d:Dk) (g:List Ty),Dk.fms (n+1) d g=((Dk.fms n d g).1++[(Dk.fm 2 (Dk.fms n d g).2 g).1],(Dk.fm 2 (Dk.fms n d g).2 g).2)
 |0,d,g=>rfl
 |n+1,d,g=>by
  have ih:=Dk.fms_snoc n (Dk.fm 2 d g).2 g
  rw[Dk.fms,ih];rfl
theorem Dk.fms_len:∀(n:Nat) (d:Dk) (g:List Ty),(Dk.fms n d g).1.length=n
 |0,_,_=>rfl
 |n+1,d,g=>by simp[Dk.fms,Dk.fms_len n]
theorem Dk.fms_ok:∀(n:Nat) (d:Dk) (g:List Ty),d.ok→(Dk.fms n d g).2.ok
 |0,_,_,h=>h
 |n+1,d,g,h=>Dk.fms_ok n _ g (Dk.fm_ok 2 d g h)
theorem Dk.fms_good:∀(n:Nat) (d:Dk) (g:List Ty),smalls g→∀f∈(Dk.fms n d g).1,f.err=0∧f.okT g
 |0,_,_,_,f,h=>by cases h
 |n+1,d,g,hg,f,h=>by
  simp only[Dk.fms,List.mem_cons] at h
  rcases h with rfl|h
  ·exact ⟨Zzh (Dk.fm_good 2 d g hg),Dk.fm_okT 2 d g hg⟩
  ·exact Dk.fms_good n _ g hg f h
def Dk.sqN(d:Dk):Nat:=(d.ctx.2.next 3).1.toNat
def Dk.sqH(d:Dk):List Fm:=(Dk.fms d.sqN (d.ctx.2.next 3).2 d.ctx.1).1
def Dk.sqD(d:Dk):Dk:=(Dk.fms d.sqN (d.ctx.2.next 3).2 d.ctx.1).2
theorem Dk.sqN_le(d:Dk):d.sqN≤2:=by have:=Dk.next_bd d.ctx.2 3 (by omega);unfold Dk.sqN;omega
theorem Dk.sqD_ok{d:Dk}(h:d.ok):d.sqD.ok:=Dk.fms_ok _ _ _ (Dk.next_ok (Dk.ctx_ok h) 3)
theorem Dk.sqH_len(d:Dk):d.sqH.length≤2:=by unfold Dk.sqH;rw[Dk.fms_len];exact d.sqN_le
def Dk.sqC(d:Dk):Ck:=⟨[],d.ctx.1,d.sqH⟩
theorem Dk.sqC_ok(d:Dk):d.sqC.ok:=
 ⟨Zqw (g:=d.ctx.1) d.ctx_smalls (by have:=d.ctx_len;omega),by have:=d.sqH_len;simp only[Dk.sqC];omega,by simp[Dk.sqC],Dk.fms_good _ _ _ d.ctx_smalls,fun f h=>by cases h⟩
theorem un(d:Dk){g:List Ty}(hg:smalls g):NumOk g (Dk.tm 3 d g natT).1∧(Dk.tm 3 d g natT).1.size≤60:=by
 have m:=Dk.tm_mk 3 d g natT hg ze (by omega) (by omega)
 have h1:=(m.size hg ze).2 rfl
 have h2:=s1_3
 exact⟨⟨m.err hg ze (by omega),m.inf hg ze,by omega⟩,by omega⟩
def Dk.w0(d:Dk):Tm×Dk:=Dk.tm 3 d.sqD d.ctx.1 natT
def Dk.w1(d:Dk):Tm×Dk:=Dk.tm 3 d.w0.2 d.ctx.1 natT
def Dk.w2(d:Dk):Tm×Dk:=Dk.tm 3 d.w1.2 d.ctx.1 natT
def Dk.wH(d:Dk):List Fm:=d.sqH++[eqF d.w0.1 d.w1.1,eqF d.w1.1 d.w2.1]
def Dk.wC(d:Dk):Ck:=⟨[],d.ctx.1,d.wH⟩
abbrev va(i:Int):Pf:= .mk 1 i (.mk 0 []) [] [] []
theorem Zqq{s:Tm}(h:s.err=0):(y4 s).err=0:=by
 have h1:=(Tm.err_iff s).1 h
 rw[Pf.err_iff]
 refine⟨?_,?_,?_⟩
 ·rw [Pf.shape_eq]
  simp[y4,Pf.head,ndP,h1.1,Ty.isNo,Ty.kind,Ty.args]
 ·rw [Pf.small_eq];simp[y4,h1.2]
 ·rw [Pf.size_eq];simp[y4];omega
theorem Zpt(s:Tm):(y4 s).size=1+s.size:=by rw[Pf.size_eq];simp[y4]
def lim(e:Int):Prop:=e=0∨e=4∨e=5∨e=3
def Dk.nH(d:Dk):List Fm:=d.wH++[eqF (sT d.w0.1) (sT d.w2.1),eqF zT (sT d.w1.1)]
def Dk.nC(d:Dk):Ck:=⟨[],d.ctx.1,d.nH⟩
theorem re_pt{g g':Int→Int→Tm}(h:∀i c,g i c=g' i c)(t:Tm)(b:Int):t.re g b=t.re g' b:=by
 have:g=g':=funext fun i=>funext fun c=>h i c
 rw[this]
theorem Fm.re_shift(G:Int→Tm→Tm)(c:Int)(f:Fm):∀b,f.re G (b+c)=f.re (fun b t=>G (b+c) t) b:=by
 induction f using Fm.ind with
 |h f ih=>
  intro b
  have e:upF f.kind (b+c)=upF f.kind b+c:=by simp only[upF];split<;>omega
  rw[Fm.re_eq,Fm.re_eq,e]
  congr 1
  exact List.map_congr_left fun x hx=>ih x hx _
theorem Fm.re_pt{G G':Int→Tm→Tm}(h:∀b t,0≤b→G b t=G' b t)(f:Fm):f.re G 0=f.re G' 0:=by
 refine Fm.re_congr f 0 fun p hp=>h _ _ ?_
 exact Zq5 p hp
theorem Zmz(f:Fm)(a:Int)(s:Tm):f.put a s=f.re (fun b t=>t.re (y5 (a+b) s) 0) 0:=rfl
theorem Ya9{k:Int}(hk:xi k=true)(s:Ty)(f:Fm)(a:Int)(x:Tm):(quF k s f).put a x=quF k s (f.put (a+1) x):=by
 rw[Zmz,Fm.re_eq]
 simp only[quF,Fm.kind,Fm.ty,Fm.terms,Fm.args,List.map_nil,List.map_cons]
 congr 2
 have e:upF k 0=0+1:=by simp[upF,hk]
 rw[e,Fm.re_shift,Zmz]
 refine Fm.re_pt (fun b t _=> ?_) f
 rw[show a+(b+1)=a+1+b by omega]
structure Gf (g:List Ty) (f:Fm) (n:Nat):Prop where
 sh:f.shape=true
 sz:f.size≤n
 ok:f.okT g
structure Gt (g:List Ty) (s:Tm) (T:Ty) (m:Nat):Prop where
 sh:s.shape=true
 sz:s.size≤m
 inf:s.inf g=(T,0)
theorem Gf.err{g:List Ty}{f:Fm}{n:Nat}(h:Gf g f n)(hn:n≤4096):f.err=0:=(Fm.err_iff f).2 ⟨h.sh,Nat.le_trans h.sz hn⟩
theorem Gt.err{g:List Ty}{s:Tm}{T:Ty}{m:Nat}(h:Gt g s T m)(hn:m≤4096):s.err=0:=(Tm.err_iff s).2 ⟨h.sh,Nat.le_trans h.sz hn⟩
theorem Zbv(f:Fm)(a:Int):wu a (f.tms 0)≤f.size:=by
 have h1:=Zej a (f.tms 0)
 have h2:=Zfj f 0
 omega
theorem Gf.put{g:List Ty}{f:Fm}{n m:Nat}{s:Tm}{T:Ty}(hf:Gf (g++[T]) f n)(hs:Gt g s T m)(hm:1≤m)(hz:n*m≤4096)(hg:g.length≤20):
 yo f 0 s=0∧Gf g (f.put 0 s) (n*m):=by
 have hn:n≤n*m:=Nat.le_mul_of_pos_right n hm
 have ef:=hf.err (by omega)
 have hp:=s.size_pos
 have p2:=f.size_pos
 have hmz:m≤4096:=by
  have:1*m≤n*m:=Nat.mul_le_mul_right m (by have:=hf.sz;omega)
  omega
 have es:=hs.err hmz
 have nf:=(Zrc hf.ok ef (by simp;omega)).1
 have ns:=Zg4 (t:=s) (g:=g) (by rw[hs.inf]) hs.sh (by have:=hs.sz;omega)
 have hc:=Zbv f 0
 have h1:wu 0 (f.tms 0)*(s.size-1)≤n*(m-1):=Nat.mul_le_mul (Nat.le_trans hc hf.sz) (by have:=hs.sz;omega)
 have h2:n*(m-1)+n=n*m:=by rw[←Nat.mul_succ];congr 1;omega
 have h3:=hf.sz
 refine⟨?_,Zcl (by omega) hs.sh hf.sh,?_,?_⟩
 ·unfold yo
  rw[if_neg (by simp[ef]),if_neg (by omega),if_neg (by simp[es]),if_neg (by simp[nf,ns]),if_neg]
  have e:((wu 0 (f.tms 0):Int)*((s.size:Int)-1))=((wu 0 (f.tms 0)*(s.size-1):Nat):Int):=by
   rw[Int.natCast_mul];congr 1;omega
  rw[e]
  omega
 ·have h4:=Zbq 0 s hs.sh f hf.sh 0
  have h5:(f.put 0 s).size=f.size+wu 0 (f.tms 0)*(s.size-1):=h4
  omega
 ·have h6:=Zi0 0 s g T hs.sh hs.inf f [] 0 rfl hf.sh (by simpa using hf.ok)
  have h7:(f.put 0 s).okT (g++[]):=h6
  simpa using h7
theorem Gf.lft{g h:List Ty}(m:List Ty){f:Fm}{n:Nat}(hf:Gf (g++h) f n):Gf (g++m++h) (f.lft h.length m.length) n:=
 have hk:=Zbp hf.sh (fr:=h.length) (by_:=m.length) (by omega)
 ⟨hk.1,by rw[hk.2.1];exact hf.sz,Zbf m hf.sh hf.ok⟩
theorem Gf.qu{g:List Ty}{s:Ty}{f:Fm}{n:Nat}(k:Int)(hk:4≤k∧k≤7)(hs:s.err=0)(hf:Gf (g++[s]) f n):Gf g (quF k s f) (n+1):=
 ⟨v6 hk hs hf.sh,by rw[Zcf];have:=hf.sz;omega,Zb4 hk hf.ok⟩
theorem Gt.zero(g:List Ty):Gt g zT natT 1:=⟨by decide,by decide,Ydj g⟩
theorem Gt.nil(g:List Ty):Gt g nilM listT 1:=⟨by decide,by decide,Zzs g⟩
theorem Gt.v0(g:List Ty)(u:Ty):Gt (g++[u]) (vT 0) u 1:=⟨by decide,by decide,Zxv g u⟩
theorem Gt.v1(g:List Ty)(u w:Ty):Gt (g++[u,w]) (vT 1) u 1:=by
 refine⟨by decide,by decide,?_⟩
 rw[xz _ _ (by omega),if_neg (by simp;omega)]
 have:Zjz (g++[u,w]) 1=Zjz [u,w] 1:=xp (by simp)
 simp only[show(1:Int).toNat=1 from rfl]
 rw[this];rfl
theorem Gt.cons(g:List Ty):Gt (g++[natT,listT]) consM listT 3:=by
 have h1:=(Gt.v1 g natT listT).inf
 have h0:(vT 0).inf (g++[natT,listT])=(listT,0):=by
  have:=(Gt.v0 (g++[natT]) listT).inf
  simpa using this
 exact⟨by decide,by decide,by
  have e:consM.inf (g++[natT,listT])=(listT,0):=by simp[consM,Tm.inf,Tm.infs,wq,h0,h1]
  exact e⟩
def Ydw(f:Fm)(p q:Pf):Pf:= .mk 8 0 natT [] [] [.mk 16 0 (.mk 0 []) [vT 0] [f.lft 1 1] [p,.mk 9 0 (.mk 0 []) [vT 0] [] [q]]]
def listsP(f:Fm)(p q:Pf):Pf:= .mk 8 0 listT [] [] [.mk 17 0 (.mk 0 []) [vT 0] [f.lft 1 1] [p,.mk 9 0 (.mk 0 []) [vT 0] [] [.mk 9 0 (.mk 0 []) [vT 1] [] [q]]]]
end Go.Ab
namespace Go.Ab
open Go
set_option linter.all false
set_option maxHeartbeats 1000000
def Dk.cf(d:Dk):Fm×Dk:=Dk.fm 2 d.sqD (d.ctx.1++[natT])
def Dk.cg(d:Dk):Fm×Dk:=Dk.fm 2 d.cf.2 (d.ctx.1++[listT])
def Yeo(f:Fm):Fm:=f.put 0 zT
def Yd8(f:Fm):Fm:=(f.lft 1 1).put 0 (sT (vT 0))
def Ye3(f:Fm):Fm:=f.put 0 nilM
def Yez(f:Fm):Fm:=(f.lft 1 2).put 0 consM
def Dk.cH(d:Dk):List Fm:=d.sqH++[Yeo d.cf.1,quF 4 natT (Yd8 d.cf.1),Ye3 d.cg.1,quF 4 natT (quF 4 listT (Yez d.cg.1))]
def Dk.cC(d:Dk):Ck:=⟨[],d.ctx.1,d.cH⟩
end Go.Ab
namespace Go.Ab
open Go
set_option linter.all false
mutual
def Pf.up(fr b v:Int):Pf→Pf
 | .mk k i s ts fs zs=> .mk k i s (ts.map fun t=>t.re (zq (fr+v) b) 0) (fs.map fun f=>f.lft (fr+(v+fvK k)) b) (Pf.ups fr b v (vaK k) zs)
def Pf.ups(fr b v w:Int):List Pf→List Pf
 |[]=>[]
 |p::l=>Pf.up fr b (if l.length=0 then v+w else v) p::Pf.ups fr b v w l
end
mutual
def Pf.lh(fr b y:Int):Pf→Pf
 | .mk k i s ts fs zs=>if k=1 then .mk 1 (if i-y≥fr then i+b else i) (.mk 0 []) [] [] [] else .mk k i s ts fs (Pf.lhs fr b y (hyK k) zs)
def Pf.lhs(fr b y w:Int):List Pf→List Pf
 |[]=>[]
 |p::l=>Pf.lh fr b (if l.length=0 then y+w else y) p::Pf.lhs fr b y w l
end
mutual
def Pf.ix(C:Int):Pf→Prop
 | .mk _ _ _ ts fs zs=>(∀t∈ts,∀p∈t.vars 0,0≤p.1∧p.1<C)∧(∀f∈fs,∀p∈f.tms 0,∀q∈p.1.vars 0,0≤q.1∧q.1<C)∧Pf.ixs C zs
def Pf.ixs(C:Int):List Pf→Prop
 |[]=>True
 |p::l=>Pf.ix C p∧Pf.ixs C l
end
theorem Zr4(C:Int):∀l:List Pf,Pf.ixs C l↔∀p∈l,p.ix C
 |[]=>by simp[Pf.ixs]
 |p::l=>by simp[Pf.ixs,Zr4 C l]
theorem Pf.ix_iff(C:Int)(p:Pf):p.ix C↔(∀t∈p.terms,∀q∈t.vars 0,0≤q.1∧q.1<C)∧(∀f∈p.forms,∀q∈f.tms 0,∀r∈q.1.vars 0,0≤r.1∧r.1<C)∧∀x∈p.args,x.ix C:=by
 cases p;simp only[Pf.ix,Zr4];rfl
mutual
def Pf.hx(C:Int):Pf→Prop
 | .mk k i _ _ _ zs=>if k=1 then 0≤i∧i<C else Pf.hxs C zs
def Pf.hxs(C:Int):List Pf→Prop
 |[]=>True
 |p::l=>Pf.hx C p∧Pf.hxs C l
end
theorem Zrz(C:Int):∀l:List Pf,Pf.hxs C l↔∀p∈l,p.hx C
 |[]=>by simp[Pf.hxs]
 |p::l=>by simp[Pf.hxs,Zrz C l]
theorem Pf.hx_iff(C:Int)(p:Pf):p.hx C↔(p.kind=1→0≤p.index∧p.index<C)∧(p.kind≠1→∀x∈p.args,x.hx C):=by
 cases p with
 |mk k i s ts fs zs=>
  by_cases h:k=1
  ·simp [Pf.hx,h,Pf.kind,Pf.index]
  ·simp [Pf.hx,h,Zrz,Pf.kind,Pf.args]
theorem Ych{C i:Int}(h:0≤i∧i<C):(va i).hx C:=by simpa [va,Pf.hx] using h
end Go.Ab
namespace Go.Ab
open Go
set_option linter.all false
set_option maxHeartbeats 1000000
inductive FP:Fm→Fm→Prop
 |refl (f):FP f f
 |eq {a b b'} (h:Pst b b'):FP (eqF a b) (eqF a b')
 |two {k a a' b b'} (ha:FP a a') (hb:FP b b'):FP (vk k a b) (vk k a' b')
 |qu {k s a a'} (ha:FP a a'):FP (quF k s a) (quF k s a')
def lim3(e:Int):Prop:=e=0∨e=4∨e=5
mutual
def Fm.dp:Fm→Nat
 | .mk _ _ _ zs=>1+Fm.dps zs
def Fm.dps:List Fm→Nat
 |[]=>0
 |f::l=>Fm.dp f+Fm.dps l
end
def arg(f:Fm)(i:Nat):Fm:=f.args.getD i noFm
def trm(f:Fm)(i:Nat):Tm:=f.terms.getD i Zbo
def exM(s t:Tm):Fm:=eqF (s.re (zq 0 1) 0) (Zqu (s.re (zq 0 1) 0) (t.re (zq 0 1) 0) (vT 0))
def Zl6:Nat→Int→Fm→Int→Pf×Int
 |0,_,_,h=>(va h,-1)
 |n+1,r,f,h=>
  if r-f.num<0∨f.err≠0 then(va h,-1)
  else if f.kind=2 then(.mk 3 0 (.mk 0 []) [] [] [(Zl6 n (r-f.num) (arg f 0) h).1,(Zl6 n (Zl6 n (r-f.num) (arg f 0) h).2 (arg f 1) h).1],(Zl6 n (Zl6 n (r-f.num) (arg f 0) h).2 (arg f 1) h).2)
  else if f.kind=3 then(.mk 6 0 (.mk 0 []) [] [arg f 0] [(Zl6 n (r-f.num) (arg f 1) (h+1)).1],(Zl6 n (r-f.num) (arg f 1) (h+1)).2)
  else if f.kind=4∨f.kind=6 then(.mk (if f.kind=6 then 12 else 8) 0 f.ty [] [] [(Zl6 n (r-f.num) (arg f 0) h).1],(Zl6 n (r-f.num) (arg f 0) h).2)
  else if f.kind=5∨f.kind=7 then
   if yo (arg f 0) 0 (dfl f.ty)≠0 then(va h,-1)
   else(.mk (if f.kind=7 then 14 else 10) 0 (.mk 0 []) [dfl f.ty] [f] [(Zl6 n (r-f.num) ((arg f 0).put 0 (dfl f.ty)) h).1],(Zl6 n (r-f.num) ((arg f 0).put 0 (dfl f.ty)) h).2)
  else(Zbk (exM (trm f 0) (trm f 1)) (va h) (y4 (trm f 0)),r-f.num)
def Acc(c:Ck)(p:Pf)(f:Fm):Prop:=(∃x,Zai p c=(x,[],0)∧FP x f∧x.err=0∧x.okT c.tys)∨∃e,Zai p c=ya e∧(e=3∨e=4∨e=5)
def Ya6(out p:Pf):Pf:= .mk 7 0 (.mk 0 []) [] [] [.mk 6 0 (.mk 0 []) [] [falseF] [out],p]
theorem wc(k i:Int)(s:Ty)(ts:List Tm)(fs:List Fm)(zs:List Pf):(Pf.mk k i s ts fs zs).full=1+s.size+(ts.map Tm.full).sum+(fs.map Fm.full).sum+(zs.map Pf.full).sum:=Pf.full_eq _
theorem v8:(Ty.mk 0 []).size=1:=by decide
theorem Zc1{s:Ty}(h:s.err=0):s.size≤64:=((Ty.err_iff s).1 h).2
def Yd3(p:Pf):Pf×Int:=if p.err=0 then(p,0) else(Zuq,4)
def exfR(n:Nat)(f:Fm)(p:Pf):Pf×Int:=if(Zl6 n 262144 f 0).2<0 then(Zuq,4) else Yd3 (Ya6 (Zl6 n 262144 f 0).1 p)
def Dk.xf(d:Dk):Fm×Dk:=Dk.fm 3 d.sqD d.ctx.1
def Dk.xC(d:Dk):Ck:=⟨[],d.ctx.1,d.sqH++[falseF]⟩
def Tw:Nat→Nat→Fm→Prop
 |0,L,f=>∃s t,f=eqF s t∧f.size≤L
 |n+1,L,f=>(∃s t,f=eqF s t∧f.size≤L)∨(∃k a b,(k=2∨k=3)∧f=vk k a b∧Tw n L a∧Tw n L b)∨∃k s a,(4≤k∧k≤7)∧s.small∧f=quF k s a∧Tw n L a
theorem Tw.size:∀{n L:Nat} {f:Fm},Tw n L f→f.size+1≤(L+1)*2^n
 |0,L,f,⟨s,t,e,h⟩=>by simp;omega
 |n+1,L,f,h=>by
  have hp:1≤2^n:=Nat.one_le_two_pow
  have h2:(L+1)*2^(n+1)=2*((L+1)*2^n):=by rw[Nat.pow_succ];simp[Nat.mul_comm,Nat.mul_left_comm]
  have h3:(L+1)*1≤(L+1)*2^n:=Nat.mul_le_mul_left _ hp
  rcases h with⟨s,t,e,h⟩|⟨k,a,b,hk,e,ha,hb⟩|⟨k,s,a,hk,hs,e,ha⟩
  ·omega
  ·have h4:=ha.size
   have h5:=hb.size
   rw[e,Zdw];omega
  ·have h4:=ha.size
   rw[e,Zcf];omega
theorem Tw.up{n L:Nat}{f:Fm}(h:Tw n L f):Tw (n+1) L f:=by
 induction n generalizing f with
 |zero=>exact .inl h
 |succ n ih=>
  rcases h with h|⟨k,a,b,hk,e,ha,hb⟩|⟨k,s,a,hk,hs,e,ha⟩
  ·exact .inl h
  ·exact .inr (.inl ⟨k,a,b,hk,e,ih ha,ih hb⟩)
  ·exact .inr (.inr ⟨k,s,a,hk,hs,e,ih ha⟩)
theorem Zz1{k:Int}(hk:k=2∨k=3)(a b:Fm)(i:Int)(x:Tm):(vk k a b).put i x=vk k (a.put i x) (b.put i x):=by
 rw[Zmz,Fm.re_eq]
 have e:upF k 0=0:=by rcases hk with rfl|rfl<;>rfl
 simp only[vk,Fm.kind,Fm.ty,Fm.terms,Fm.args,List.map_nil,List.map_cons]
 rw[e];rfl
theorem Tw.put:∀{n L:Nat} {f:Fm},Tw n L f→f.shape=true→∀(i:Int) (x:Tm),0≤i→x.shape=true→x.size≤3→Tw n (3*L) (f.put i x)
 |0,L,f,⟨s,t,e,h⟩,hs,i,x,hi,hx,hz=>by
  have h1:=Zbq i x hx f hs 0
  have h2:(f.put i x).size=f.size+wu i (f.tms 0)*(x.size-1):=h1
  have h3:=Zbv f i
  have h4:wu i (f.tms 0)*(x.size-1)≤f.size*2:=Nat.mul_le_mul h3 (by omega)
  subst e
  exact⟨s.re (y5 (i+0) x) 0,t.re (y5 (i+0) x) 0,rfl,by omega⟩
 |n+1,L,f,h,hs,i,x,hi,hx,hz=>by
  rcases h with⟨s,t,e,h⟩|⟨k,a,b,hk,e,ha,hb⟩|⟨k,s,a,hk,hsm,e,ha⟩
  ·exact Tw.up' (Tw.put (n:=0) ⟨s,t,e,h⟩ hs i x hi hx hz)
  ·subst e
   have sa:a.shape=true:=zo hs (x:=a) (by simp[vk])
   have sb:b.shape=true:=zo hs (x:=b) (by simp[vk])
   rw[Zz1 hk]
   exact .inr (.inl ⟨k,_,_,hk,rfl,Tw.put ha sa i x hi hx hz,Tw.put hb sb i x hi hx hz⟩)
  ·subst e
   have sa:a.shape=true:=zo hs (x:=a) (by simp[quF])
   rw[Ya9 (quantK_iff.2 hk)]
   exact .inr (.inr ⟨k,s,_,hk,hsm,rfl,Tw.put ha sa (i+1) x (by omega) hx hz⟩)
where
 Tw.up' {n L:Nat} {f:Fm} (h:Tw 0 L f):Tw (n+1) L f:= .inl h
def cost:Nat→Nat→Nat
 |0,L=>L
 |n+1,L=>(L+1)*2^(n+1)+2*cost n L+cost n (3*L)
def psz:Nat→Nat→Nat
 |0,L=>3*L+8
 |n+1,L=>10+3*L+(L+1)*2^(n+1)+2*psz n L+psz n (3*L)
structure Pg (p:Pf) (n:Nat):Prop where
 sh:p.shape=true
 sm:p.small=true
 sz:p.size≤n
theorem Pg.err{p:Pf}{n:Nat}(h:Pg p n)(hn:n≤16384):p.err=0:=(Pf.err_iff p).2 ⟨h.sh,h.sm,Nat.le_trans h.sz hn⟩
theorem Pg.of{p:Pf}(h:p.err=0):Pg p p.size:=have h1:=(Pf.err_iff p).1 h;⟨h1.1,h1.2.1,Nat.le_refl _⟩
theorem Pg.mono{p:Pf}{n m:Nat}(h:Pg p n)(hn:n≤m):Pg p m:=⟨h.sh,h.sm,Nat.le_trans h.sz hn⟩
theorem Zji(k i:Int)(s:Ty)(ts:List Tm)(fs:List Fm)(zs:List Pf):(Pf.mk k i s ts fs zs).size=1+(ts.map Tm.size).sum+(fs.map Fm.size).sum+(zs.map Pf.size).sum:=Pf.size_eq _
theorem Pg.imp{p:Pf}{f:Fm}{n m:Nat}(hf:f.shape=true)(hz:f.size≤m)(hm:m≤4096)(hp:Pg p n):Pg (.mk 6 0 (.mk 0 []) [] [f] [p]) (1+m+n):=by
 refine⟨?_,?_,?_⟩
 ·simp [Pf.shape,Pf.shapes,Pf.head,ndP,hp.sh,hf,Ty.isNo,Ty.kind,Ty.args]
 ·simp [Pf.small,Pf.smalls,hp.sm];omega
 ·have:=hp.sz
  simp only[Zji,List.map_cons,List.map_nil,List.sum_cons,List.sum_nil];omega
theorem Pg.all{k:Int}{p:Pf}{s:Ty}{n:Nat}(hk:k=8∨k=12)(hs:s.err=0)(hp:Pg p n):Pg (.mk k 0 s [] [] [p]) (1+n):=by
 have ho:s.ok=true:=by
  have h1:=(Ty.err_iff s).1 hs
  simp only[Ty.ok,Bool.and_eq_true,decide_eq_true_eq];exact h1
 refine⟨?_,?_,?_⟩
 ·rcases hk with rfl|rfl<;>simp[Pf.shape,Pf.shapes,Pf.head,ndP,hp.sh,ho]
 ·simp [Pf.small,Pf.smalls,hp.sm]
 ·have:=hp.sz
  simp only[Zji,List.map_cons,List.map_nil,List.sum_cons,List.sum_nil];omega
theorem Pg.ex{k:Int}{p:Pf}{t:Tm}{f:Fm}{n m z:Nat}(hk:k=10∨k=14)(ht:t.shape=true)(hz:t.size≤z)(hz2:z≤4096)(hf:f.shape=true)(hm:f.size≤m)(hm2:m≤4096)(hp:Pg p n):Pg (.mk k 0 (.mk 0 []) [t] [f] [p]) (1+z+m+n):=by
 refine⟨?_,?_,?_⟩
 ·rcases hk with rfl|rfl<;>simp[Pf.shape,Pf.shapes,Pf.head,ndP,hp.sh,ht,hf,Ty.isNo,Ty.kind,Ty.args]
 ·simp [Pf.small,Pf.smalls,hp.sm];omega
 ·have:=hp.sz
  simp only[Zji,List.map_cons,List.map_nil,List.sum_cons,List.sum_nil];omega
theorem Pg.refl{t:Tm}{n:Nat}(ht:t.shape=true)(hz:t.size≤n)(hn:n≤4096):Pg (y4 t) (1+n):=by
 have h:=Pg.of (Zqq (s:=t) ((Tm.err_iff t).2 ⟨ht,by omega⟩))
 rw[Zpt] at h
 exact h.mono (by omega)
def orB(a b:Fm):Fm:=vk 2 (vk 3 Zwf (a.lft 0 1)) (vk 3 (Zok Zwf) (b.lft 0 1))
def orA(a b:Fm):Fm:=orF (a.lft 0 1) (b.lft 0 1)
def Zea(p q:Pf):Pf:= .mk 7 0 (.mk 0 []) [] [] [p,q]
def Zlg(f:Fm)(p:Pf):Pf:= .mk 6 0 (.mk 0 []) [] [f] [p]
def Ydy(p q:Pf):Pf:= .mk 3 0 (.mk 0 []) [] [] [p,q]
def Zit(f:Fm)(t:Tm)(p:Pf):Pf:= .mk 10 0 (.mk 0 []) [t] [f] [p]
def Yee(a b:Fm)(i:Int)(x:Pf):Pf:=Zit (orA a b) zT (Ydy (Zlg (eqF zT zT) (va (i+1))) (Zlg (Zok (eqF zT zT)) (Ya6 x (Zea (va 0) (y4 zT)))))
def Yb7(a b:Fm)(i:Int)(x:Pf):Pf:=Zit (orA a b) (sT zT) (Ydy (Zlg (eqF (sT zT) zT) (Ya6 x (symP (sT zT) (va 0)))) (Zlg (Zok (eqF (sT zT) zT)) (va (i+1))))
def Zum(x:Tm)(a b:Fm)(n:Int):Fm:=vk 2 (vk 3 (eqF x zT) (a.lft 0 n)) (vk 3 (Zok (eqF x zT)) (b.lft 0 n))
def Yeg(a b c:Fm):Fm:=vk 3 (Zum (vT 0) a b 2) (c.lft 0 2)
def nxT:Tm:=sT (vT 0)
def Ydd(p:Pf):Pf:= .mk 4 0 (.mk 0 []) [] [] [p]
def Ybq(p:Pf):Pf:= .mk 5 0 (.mk 0 []) [] [] [p]
def Yea(a b:Fm)(q:Pf):Pf:=Zlg (Zum zT a b 1) (Zea q (Zea (Ydd (va 0)) (y4 zT)))
def difP:Pf:=Zlg (eqF nxT zT) (Zjl (symP nxT (va 0)))
def Ye1(a b:Fm)(r:Pf):Pf:=Zlg (Zum nxT a b 2) (Zea r (Zea (Ybq (va 0)) difP))
def indP(f:Fm)(t:Tm)(p q:Pf):Pf:= .mk 16 0 (.mk 0 []) [t] [f] [p,q]
def Yb8(a b c:Fm)(p q r:Pf):Pf:= .mk 11 0 (.mk 0 []) [] [] [p,Zea (indP (Yeg a b c) (vT 0) (Yea a b q) (Ye1 a b r)) (va 0)]
theorem Zz4(a b:Tm)(i n:Int):(eqF a b).lft i n=eqF (a.re (zq (i+0) n) 0) (b.re (zq (i+0) n) 0):=rfl
theorem Pg.some{p:Pf}{t:Tm}{f:Fm}{n m z:Nat}(ht:t.shape=true)(hz:t.size≤z)(hz2:z≤4096)(hf:f.shape=true)(hm:f.size≤m)(hm2:m≤4096)(hp:Pg p n):Pg (Zit f t p) (1+z+m+n):=Pg.ex (.inl rfl) ht hz hz2 hf hm hm2 hp
def Dk.oA(d:Dk):Fm×Dk:=Dk.fm 2 d.sqD d.ctx.1
def Dk.oB(d:Dk):Fm×Dk:=Dk.fm 2 d.oA.2 d.ctx.1
def Dk.oC(d:Dk):Fm×Dk:=Dk.fm 1 d.oB.2 d.ctx.1
def Dk.oH(d:Dk):List Fm:=d.sqH++[d.oA.1,d.oB.1,orA d.oA.1 d.oB.1,vk 3 d.oA.1 d.oC.1,vk 3 d.oB.1 d.oC.1]
def Dk.oK(d:Dk):Ck:=⟨[],d.ctx.1,d.oH⟩
def Dk.oL(d:Dk):Pf:=Yee d.oA.1 d.oB.1 4 (Zl6 d.oB.1.dp 262144 d.oB.1 0).1
def Dk.oR(d:Dk):Pf:=Yb7 d.oA.1 d.oB.1 3 (Zl6 d.oA.1.dp 262144 d.oA.1 0).1
def Dk.oX(d:Dk):Pf:=Yb8 d.oA.1 d.oB.1 d.oC.1 (va 2) (va 3) (va 3)
theorem Zof{α:Type}(f g:α→Nat):∀l:List α,(∀x∈l,f x≤65*g x)→(l.map f).sum≤65*(l.map g).sum
 |[],_=>by simp
 |x::l,h=>by
  have h1:=h x (by simp)
  have h2:=Zof f g l fun y hy=>h y (by simp[hy])
  simp only[List.map_cons,List.sum_cons];omega
theorem Zjj(p:Pf):p.shape=true→p.full≤65*p.size:=by
 induction p using Pf.ind with
 |h p ih=>
  intro hs
  obtain⟨h1,h2,h3,h4⟩:=yl hs
  have ht:p.ty.size≤64:=by
   have hh:=h1
   unfold Pf.head at hh
   split at hh
   ·cases hh
   ·rename_i nd _
    simp only[Bool.and_eq_true] at hh
    have h5:=hh.2
    split at h5
    ·simp only[Ty.ok,Bool.and_eq_true,decide_eq_true_eq] at h5;exact h5.2
    ·rw [Ty.no_of h5];decide
  have a1:=Zof Tm.full Tm.size p.terms fun t ht=>Zdf t (h2 t ht)
  have a2:=Zof Fm.full Fm.size p.forms fun f hf=>Zak f (h3 f hf)
  have a3:=Zof Pf.full Pf.size p.args fun x hx=>ih x hx (h4 x hx)
  have e1:=p.full_eq
  have e2:=p.size_eq
  omega
end Go.Ab
namespace Go.Ab
open Go
set_option linter.all false
abbrev w64(n:Int):Int:=IntKind.i64.wrap n
def Yet(fr by_:Int)(i b:Int):Tm:= .mk 1 (if w64 (i-b)≥fr then w64 (i+by_) else i) (.mk 0 []) []
def Tm.lw(t:Tm)(fr by_:Int):Tm:=t.re (Yet fr by_) 0
def Fm.lw(f:Fm)(fr by_:Int):Fm:=f.re (fun b t=>t.lw (fr+b) by_) 0
theorem Ty.size_one(t:Ty):1≤t.size:=by cases t;simp only[Ty.size];omega
theorem Tm.full_two(t:Tm):2≤t.full:=by rw[Tm.full_eq];have:=t.ty.size_one;omega
theorem Zce{α:Type}{f g:α→Nat}:∀{l:List α},(∀x∈l,f x≤g x)→(l.map f).sum≤(l.map g).sum
 |[],_=>Nat.le_refl _
 |x::l,h=>by
  simp only[List.map_cons,List.sum_cons]
  have h1:=h x (by simp)
  have h2:=Zce (l:=l) fun y hy=>h y (by simp[hy])
  omega
theorem Tm.re_fle{G:Int→Int→Tm}(hG:∀i b,(G i b).full≤2)(t:Tm):∀b,(t.re G b).full≤t.full:=by
 induction t using Tm.ind with
 |h t ih=>
  intro b
  by_cases h1:t.kind=1
  ·rw [vg h1]
   have:=hG t.index b
   have:=t.full_two
   omega
  ·rw [y8 h1,t.full_eq,Tm.full_eq]
   simp only[Tm.args_mk,Tm.ty_mk,List.map_map]
   have:=Zce (f:=Tm.full∘Tm.re G (up t.kind b)) (g:=Tm.full) fun x hx=>ih x hx (up t.kind b)
   omega
theorem Fm.re_fle{G:Int→Tm→Tm}(hG:∀b t,(G b t).full≤t.full)(f:Fm):∀b,(f.re G b).full≤f.full:=by
 induction f using Fm.ind with
 |h f ih=>
  intro b
  rw[f.full_eq,Fm.full_eq,Fm.re_eq]
  simp only[Fm.terms_mk,Fm.args_mk,Fm.ty_mk,List.map_map]
  have h1:=Zce (l:=f.terms) (f:=Tm.full∘G b) (g:=Tm.full) fun x _=>hG b x
  have h2:=Zce (f:=Fm.full∘Fm.re G (upF f.kind b)) (g:=Fm.full) fun x hx=>ih x hx (upF f.kind b)
  omega
mutual
def Pf.uw(fr b v:Int):Pf→Pf
 | .mk k i s ts fs zs=> .mk k i s (ts.map fun t=>t.lw (fr+v) b) (fs.map fun f=>f.lw (fr+(v+fvK k)) b) (Pf.uws fr b v (vaK k) zs)
def Pf.uws(fr b v w:Int):List Pf→List Pf
 |[]=>[]
 |p::l=>Pf.uw fr b (if l.length=0 then v+w else v) p::Pf.uws fr b v w l
end
mutual
def Pf.hw(fr b y:Int):Pf→Pf
 | .mk k i s ts fs zs=>if k=1 then .mk 1 (if w64 (i-y)≥fr then w64 (i+b) else i) (.mk 0 []) [] [] [] else .mk k i s ts fs (Pf.hws fr b y (hyK k) zs)
def Pf.hws(fr b y w:Int):List Pf→List Pf
 |[]=>[]
 |p::l=>Pf.hw fr b (if l.length=0 then y+w else y) p::Pf.hws fr b y w l
end
mutual
def Pf.nd:Pf→Prop
 | .mk k _ _ _ _ zs=>(∃n,ndP k=some n∧zs.length=n.args)∧Pf.nds zs
def Pf.nds:List Pf→Prop
 |[]=>True
 |p::l=>Pf.nd p∧Pf.nds l
end
theorem Zqj:∀l:List Pf,Pf.nds l↔∀p∈l,p.nd
 |[]=>by simp[Pf.nds]
 |p::l=>by simp[Pf.nds,Zqj l]
theorem Pf.nd_iff(p:Pf):p.nd↔(∃n,ndP p.kind=some n∧p.args.length=n.args)∧∀x∈p.args,x.nd:=by
 cases p;simp only[Pf.nd,Zqj];rfl
theorem Yde(p:Pf):p.shape=true→p.nd:=by
 induction p using Pf.ind with
 |h p ih=>
  intro hs
  obtain⟨nd,n1,n2,n3,n4,_⟩:=Zo3 hs
  exact(Pf.nd_iff p).2 ⟨⟨nd,n1,n4⟩,fun x hx=>ih x hx ((yl hs).2.2.2 x hx)⟩
def Pf.uph(p:Pf)(v h:Int):Pf:=(p.uw 0 v 0).hw 0 h 0
def Yd6(s:Tm)(p:Pf):Pf:=Zbk (eqF (vT 0) (s.lw 0 1)) p (y4 s)
def transW(s:Tm)(p q:Pf):Pf:=Zbk (eqF (s.lw 0 1) (vT 0)) q p
def Yd2(g s:Tm)(p:Pf):Pf:=Zbk (eqF (apT (g.lw 0 1) (s.lw 0 1)) (apT (g.lw 0 1) (vT 0))) p (y4 (apT g s))
def injW(s:Tm)(p:Pf):Pf:=Zbk (eqF (s.lw 0 1) (apT predT (vT 0))) p (y4 s)
def Yan(s t n:Tm):Tm:= .mk 6 0 natT [s,lmT natT (lmT natT (t.lw 0 2)),n]
def exW(s t:Tm):Fm:=eqF (s.lw 0 1) (Yan (s.lw 0 1) (t.lw 0 1) (vT 0))
def Zb3:Nat→Int→Fm→Int→Pf×Int
 |0,_,_,h=>(va h,-1)
 |n+1,r,f,h=>
  if r-f.num<0∨f.err≠0 then(va h,-1)
  else if f.kind=2 then(.mk 3 0 (.mk 0 []) [] [] [(Zb3 n (r-f.num) (arg f 0) h).1,(Zb3 n (Zb3 n (r-f.num) (arg f 0) h).2 (arg f 1) h).1],(Zb3 n (Zb3 n (r-f.num) (arg f 0) h).2 (arg f 1) h).2)
  else if f.kind=3 then(.mk 6 0 (.mk 0 []) [] [arg f 0] [(Zb3 n (r-f.num) (arg f 1) (h+1)).1],(Zb3 n (r-f.num) (arg f 1) (h+1)).2)
  else if f.kind=4∨f.kind=6 then(.mk (if f.kind=6 then 12 else 8) 0 f.ty [] [] [(Zb3 n (r-f.num) (arg f 0) h).1],(Zb3 n (r-f.num) (arg f 0) h).2)
  else if f.kind=5∨f.kind=7 then
   if yo (arg f 0) 0 (dfl f.ty)≠0 then(va h,-1)
   else(.mk (if f.kind=7 then 14 else 10) 0 (.mk 0 []) [dfl f.ty] [f] [(Zb3 n (r-f.num) ((arg f 0).put 0 (dfl f.ty)) h).1],(Zb3 n (r-f.num) ((arg f 0).put 0 (dfl f.ty)) h).2)
  else(Zbk (exW (trm f 0) (trm f 1)) (va h) (y4 (trm f 0)),r-f.num)
def lftW(a b:Fm)(p x:Pf):Pf:=Zit (orA a b) zT (Ydy (Zlg (eqF zT zT) (p.uph 0 1)) (Zlg (Zok (eqF zT zT)) (Ya6 x (Zea (va 0) (y4 zT)))))
def rgtW(a b:Fm)(p x:Pf):Pf:=Zit (orA a b) (sT zT) (Ydy (Zlg (eqF (sT zT) zT) (Ya6 x (Yd6 (sT zT) (va 0)))) (Zlg (Zok (eqF (sT zT) zT)) (p.uph 0 1)))
def Zto(x:Tm)(a b:Fm)(n:Int):Fm:=vk 2 (vk 3 (eqF x zT) (a.lw 0 n)) (vk 3 (Zok (eqF x zT)) (b.lw 0 n))
def Ybu(a b c:Fm):Fm:=vk 3 (Zto (vT 0) a b 2) (c.lw 0 2)
def Ydl(a b:Fm)(q:Pf):Pf:=Zlg (Zto zT a b 1) (Zea q (Zea (Ydd (va 0)) (y4 zT)))
def difW:Pf:=Zlg (eqF nxT zT) (Zjl (Yd6 nxT (va 0)))
def Yda(a b:Fm)(r:Pf):Pf:=Zlg (Zto nxT a b 2) (Zea r (Zea (Ybq (va 0)) difW))
def Zxl(a b c:Fm)(p q r:Pf):Pf:= .mk 11 0 (.mk 0 []) [] [] [p,Zea (indP (Ybu a b c) (vT 0) (Ydl a b (q.uph 1 2)) (Yda a b (r.uph 2 3))) (va 0)]
def Zjw(f:Fm)(p q:Pf):Pf:= .mk 8 0 natT [] [] [.mk 16 0 (.mk 0 []) [vT 0] [f.lw 1 1] [p.uph 1 0,.mk 9 0 (.mk 0 []) [vT 0] [] [q.uph 2 1]]]
def Yb3(f:Fm)(p q:Pf):Pf:= .mk 8 0 listT [] [] [.mk 17 0 (.mk 0 []) [vT 0] [f.lw 1 1] [p.uph 1 0,.mk 9 0 (.mk 0 []) [vT 0] [] [.mk 9 0 (.mk 0 []) [vT 1] [] [q.uph 3 1]]]]
def Zcn(s t:Tm):Fm:=eqF s t
def Ycb(s t:Tm):Fm:=orA (Zcn s t) (Zok (Zcn s t))
def elP(s t:Tm)(p:Pf):Pf:=lftW (Zcn s t) (Zok (Zcn s t)) p (Zb3 (Zok (Zcn s t)).dp 262144 (Zok (Zcn s t)) 0).1
def erP(s t:Tm)(p:Pf):Pf:=rgtW (Zcn s t) (Zok (Zcn s t)) (Zlg (Zcn s t) p) (Zb3 (Zcn s t).dp 262144 (Zcn s t) 0).1
def Zze(s:Ty)(p:Pf):Pf:= .mk 8 0 s [] [] [p]
def Zy3(t:Tm)(p:Pf):Pf:= .mk 9 0 (.mk 0 []) [t] [] [p]
def eq1P:Pf:=Zjw (Ycb zT (vT 0)) (elP zT zT (y4 zT)) (Zze natT (erP zT (sT (vT 0)) (Zjl (va 0))))
def sucT:Tm:=lmT natT (sT (vT 0))
def eqEP:Pf:=Zlg (Zcn (vT 1) (vT 0)) (elP (sT (vT 1)) (sT (vT 0)) (Yd2 sucT (vT 1) (va 0)))
def eqDP:Pf:=Zlg (Zok (Zcn (vT 1) (vT 0))) (erP (sT (vT 1)) (sT (vT 0)) (Zea (va 1) (injW (vT 1) (va 0))))
def eqBP:Pf:=Zxl (Zcn (vT 1) (vT 0)) (Zok (Zcn (vT 1) (vT 0))) (Ycb (sT (vT 1)) (sT (vT 0))) (Zy3 (vT 0) (va 0)) eqEP eqDP
def eq2P:Pf:=Zjw (Ycb (sT (vT 1)) (vT 0)) (erP (sT (vT 0)) zT (Zjl (Yd6 (sT (vT 0)) (va 0)))) (Zze natT eqBP)
def eqP:Pf:=Zze natT (.mk 16 0 (.mk 0 []) [vT 0] [quF 4 natT (Ycb (vT 1) (vT 0))] [eq1P,eq2P])
def eqAll:Fm:=quF 4 natT (quF 4 natT (Ycb (vT 1) (vT 0)))
def Fm.fvl(f:Fm)(b:Int):List Int:=(f.tms b).flatMap fun p=>fre (p.1.vars p.2)
mutual
def Pf.fvl(b:Int):Pf→List Int
 | .mk k _ _ ts fs zs=>ts.flatMap (fun t=>fre (t.vars b))++fs.flatMap (fun f=>f.fvl (b+fvK k))++(Pf.fvls b (vaK k) zs).flatten
def Pf.fvls(b w:Int):List Pf→List (List Int)
 |[]=>[]
 |p::l=>Pf.fvl (if l.length=0 then b+w else b) p::Pf.fvls b w l
end
mutual
def Pf.hyl(y:Int):Pf→List Int
 | .mk k i _ _ _ zs=>(if k=1∧i≥y then [i-y] else [])++(Pf.hyls y (hyK k) zs).flatten
def Pf.hyls(y w:Int):List Pf→List (List Int)
 |[]=>[]
 |p::l=>Pf.hyl (if l.length=0 then y+w else y) p::Pf.hyls y w l
end
mutual
def Pf.lml:Pf→List Int
 | .mk k i _ _ _ zs=>(if k=2 then [i] else [])++(Pf.lmls zs).flatten
def Pf.lmls:List Pf→List (List Int)
 |[]=>[]
 |p::l=>Pf.lml p::Pf.lmls l
end
theorem Pf.hyl_eq(y:Int)(p:Pf):p.hyl y=(if p.kind=1∧p.index≥y then [p.index-y] else [])++(Pf.hyls y (hyK p.kind) p.args).flatten:=by cases p;simp only[Pf.hyl];rfl
theorem Zt2:∀l:List Pf,Pf.lmls l=l.map Pf.lml
 |[]=>rfl
 |p::l=>by rw[Pf.lmls,Zt2 l];rfl
theorem Pf.lml_eq(p:Pf):p.lml=(if p.kind=2 then [p.index] else [])++(p.args.map Pf.lml).flatten:=by cases p;simp only[Pf.lml,Zt2];rfl
theorem Zld{α:Type}{L:List (List α)}{m:Nat}(h:m<L.length):(L.take m).flatten++L[m]=(L.take (m+1)).flatten:=by
 rw[←List.take_append_getElem h,List.flatten_append];simp
def Tm.ixr(t:Tm):Prop:=∀b,∀p∈t.vars b,0≤p.1∧p.1<9223372036854775808
def Fm.ixr(f:Fm):Prop:=∀b,∀p∈f.tms b,p.1.ixr
mutual
def Pf.ixr:Pf→Prop
 | .mk _ i _ ts fs zs=>(0≤i∧i<9223372036854775808)∧(∀t∈ts,t.ixr)∧(∀f∈fs,f.ixr)∧Pf.ixrs zs
def Pf.ixrs:List Pf→Prop
 |[]=>True
 |p::l=>Pf.ixr p∧Pf.ixrs l
end
def Zdp(p:Pf):List Int:=yj (nub [] (p.hyl 0))
def Ze6(p:Pf):List Int:=yj (nub [] p.lml)
def usesP(p:Pf):List Int:=yj (nub [] (p.fvl 0))
def usesF(f:Fm):List Int:=yj (nub [] (f.fvl 0))
mutual
def Pf.cn(most:Int):Pf→Int
 | .mk _ _ h ts fs zs=>Pf.cns most (Fm.cns most (Tm.cns most (1+h.cn (most-1)) ts) fs) zs
def Pf.cns(most n:Int):List Pf→Int
 |[]=>n
 |x::l=>if n≤most then Pf.cns most (n+x.cn (most-n)) l else n
end
theorem Pf.cn_eq(most:Int)(t:Pf):t.cn most=Pf.cns most (Fm.cns most (Tm.cns most (1+t.ty.cn (most-1)) t.terms) t.forms) t.args:=by cases t;simp only[Pf.cn];rfl
theorem Pf.cns_app(most:Int):∀(l l':List Pf) (n:Int),Pf.cns most n (l++l')=Pf.cns most (Pf.cns most n l) l'
 |[],l',n=>by simp only[List.nil_append,Pf.cns]
 |x::l,l',n=>by
  simp only[List.cons_append,Pf.cns]
  by_cases h:n≤most
  ·rw [if_pos h,if_pos h];exact Pf.cns_app most l l' _
  ·rw [if_neg h,if_neg h]
   cases l' with
   |nil=>simp only[Pf.cns]
   |cons y l'=>simp only[Pf.cns];rw[if_neg h]
theorem Pf.cns_stuck{most n:Int}(h:¬n≤most):∀l:List Pf,Pf.cns most n l=n
 |[]=>by simp only[Pf.cns]
 |x::l=>by simp only[Pf.cns];rw[if_neg h]
theorem Pf.cns_take{most n:Int}{l:List Pf}{m:Nat}(hm:m<l.length)(h:Pf.cns most n (l.take m)≤most):Pf.cns most n (l.take (m+1))=Pf.cns most n (l.take m)+l[m].cn (most-Pf.cns most n (l.take m)):=by
 rw[←List.take_append_getElem hm,Pf.cns_app];simp only[Pf.cns];rw[if_pos h]
theorem Pf.cns_end{most n:Int}{l:List Pf}{m:Nat}(h:¬Pf.cns most n (l.take m)≤most):Pf.cns most n l=Pf.cns most n (l.take m):=by
 conv=>lhs;rw[←List.take_append_drop m l,Pf.cns_app,Pf.cns_stuck h]
theorem Fm.cns_bd3(most:Int):∀(l:List Fm) (n:Int),n≤Fm.cns most n l∧(Fm.cns most n l≤n∨Fm.cns most n l≤most+2)∧(Fm.cns most n l≤most→Fm.cns most n l=n+(l.map Fm.full).sum)
 |[],n=>by simp only[Fm.cns];exact⟨by omega,.inl (by omega),fun _=>by simp⟩
 |x::l,n=>by
  simp only[Fm.cns]
  by_cases h:n≤most
  ·rw [if_pos h]
   obtain⟨a1,a2,a3⟩:=x.cn_bd (most-n)
   obtain⟨b1,b2,b3⟩:=Fm.cns_bd3 most l (n+x.cn (most-n))
   refine⟨by omega,by omega,fun hc=> ?_⟩
   rw[b3 hc,a3 (by omega),List.map_cons,List.sum_cons];omega
  ·rw [if_neg h];exact⟨by omega,.inl (by omega),fun hc=>absurd hc h⟩
theorem Pf.cn_bd(t:Pf):∀most:Int,1≤t.cn most∧(t.cn most≤2∨t.cn most≤most+2)∧(t.cn most≤most→t.cn most=t.full):=by
 induction t using Pf.ind with
 |h t ih=>
  intro most
  rw[Pf.cn_eq,Pf.full_eq]
  have key:∀(l:List Pf) (n:Int),(∀x∈l,x∈t.args)→n≤Pf.cns most n l∧(Pf.cns most n l≤n∨Pf.cns most n l≤most+2)∧(Pf.cns most n l≤most→Pf.cns most n l=n+(l.map Pf.full).sum):=by
   intro l
   induction l with
   |nil=>intro n _;simp only[Pf.cns];refine⟨by omega,.inl (by omega),fun _=>by simp⟩
   |cons x l ihl=>
    intro n hx
    simp only[Pf.cns]
    by_cases h:n≤most
    ·rw [if_pos h]
     obtain⟨a1,a2,a3⟩:=ih x (hx x (by simp)) (most-n)
     obtain⟨b1,b2,b3⟩:=ihl (n+x.cn (most-n)) fun y hy=>hx y (by simp[hy])
     refine⟨by omega,by omega,fun hc=> ?_⟩
     rw[b3 hc,a3 (by omega),List.map_cons,List.sum_cons];omega
    ·rw [if_neg h];exact⟨by omega,.inl (by omega),fun hc=>absurd hc h⟩
  obtain⟨c1,c2,c3⟩:=t.ty.cn_bd (most-1)
  obtain⟨d1,d2,d3⟩:=Tm.cns_bd most t.terms (1+t.ty.cn (most-1))
  obtain⟨e1,e2,e3⟩:=Fm.cns_bd3 most t.forms (Tm.cns most (1+t.ty.cn (most-1)) t.terms)
  obtain⟨a1,a2,a3⟩:=key t.args (Fm.cns most (Tm.cns most (1+t.ty.cn (most-1)) t.terms) t.forms) fun _ h=>h
  exact⟨by omega,by omega,fun h=>by rw[a3 h,e3 (by omega),d3 (by omega),c3 (by omega)];omega⟩
def Tm.ixb(t:Tm):Prop:=∀q∈t.vars 0,0≤q.1∧q.1<10000
def Fm.ixb(f:Fm):Prop:=∀q∈f.tms 0,∀r∈q.1.vars 0,0≤r.1∧r.1<10000
theorem Ztb(f:Fm):∀(g:List Ty) (b:Int),f.shape=true→f.okT g→∀q∈f.tms b,∀r∈q.1.vars 0,0≤r.1∧r.1<g.length+f.size:=by
 induction f using Fm.ind with
 |h f ih=>
  intro g b hs h q hq r hr
  rw[f.tms_eq b,List.mem_append] at hq
  rw[Fm.okT_iff] at h
  have hsz:=f.size_eq
  rcases hq with hq|hq
  ·obtain ⟨t,ht,rfl⟩:=List.mem_map.1 hq
   have hst:=yd hs ht
   have h1:=zb Tm.size ht
   exact⟨t.vars_nonneg hst 0 r hr,Za1 t g 0 (g.length+f.size) (by rw[h.1 t ht]) hst (by omega) r hr⟩
  ·obtain ⟨x,hx,hq⟩:=List.mem_flatMap.1 hq
   have h1:=zb Fm.size hx
   have hl:(Ze7 g f).length≤g.length+1:=by unfold Ze7;split<;>simp
   have:=ih x hx _ _ (zo hs hx) (h.2 x hx) q hq r hr
   omega
def TmI(t:Tm):Prop:=t.shape=true∧t.ixb∧t.full≤300000
def FmI(f:Fm):Prop:=f.shape=true∧f.ixb∧f.full≤300000
theorem TmI.of{g:List Ty}{t:Tm}{T:Ty}(he:t.err=0)(hi:t.inf g=(T,0))(hg:g.length≤20):TmI t:=by
 obtain⟨h1,h2⟩:=(Tm.err_iff t).1 he
 have h3:=z8 he
 refine⟨h1,fun q hq=>⟨t.vars_nonneg h1 0 q hq,?_⟩,by omega⟩
 have:=Za1 t g 0 (g.length+t.size) (by rw[hi]) h1 (by omega) q hq
 omega
theorem FmI.of{g:List Ty}{f:Fm}(he:f.err=0)(ho:f.okT g)(hg:g.length≤20):FmI f:=by
 obtain⟨h1,h2⟩:=(Fm.err_iff f).1 he
 have h3:=yr he
 refine⟨h1,fun q hq r hr=> ?_,by omega⟩
 have:=Ztb f g 0 h1 ho q hq r hr
 omega
mutual
def Pf.lx(C:Int):Pf→Prop
 | .mk k i _ _ _ zs=>(k=2→0≤i∧i<C)∧Pf.lxs C zs
def Pf.lxs(C:Int):List Pf→Prop
 |[]=>True
 |p::l=>Pf.lx C p∧Pf.lxs C l
end
theorem Ztu(C:Int):∀l:List Pf,Pf.lxs C l↔∀p∈l,p.lx C
 |[]=>by simp[Pf.lxs]
 |p::l=>by simp[Pf.lxs,Ztu C l]
theorem Pf.lx_iff(C:Int)(p:Pf):p.lx C↔(p.kind=2→0≤p.index∧p.index<C)∧∀x∈p.args,x.lx C:=by cases p;simp only[Pf.lx,Ztu];rfl
structure Made (n:Nat) (p:Pf):Prop where
 shape:p.shape=true
 full:p.full≤n
 ix:p.ix 10000
 hx:p.hx 10000
 lx:p.lx 10000
theorem Made.up{n m:Nat}{p:Pf}(h:Made n p)(hm:n≤m):Made m p:=⟨h.shape,Nat.le_trans h.full hm,h.ix,h.hx,h.lx⟩
theorem Made.mk'{k i:Int}{s:Ty}{ts:List Tm}{fs:List Fm}{zs:List Pf}{nd:Nd}{n:Nat}(hn:ndP k=some nd)(h1:ts.length=nd.terms)(h2:fs.length=nd.forms)(h3:zs.length=nd.args)
 (hi:0≤i∧i<10000) (hi2:nd.index=true∨i=0) (hs:if nd.typ=true then s.ok=true else s.isNo=true) (hk:k=1→zs=[])
 (ht:∀t∈ts,TmI t) (hf:∀f∈fs,FmI f) (hz:∀x∈zs,∃m,Made m x) (hfull:(Pf.mk k i s ts fs zs).full≤n):Made n (Pf.mk k i s ts fs zs):=by
 refine⟨?_,hfull,(Pf.ix_iff _ _).2 ⟨fun t h=>(ht t h).2.1,fun f h=>(hf f h).2.1,fun x h=> ?_⟩,(Pf.hx_iff _ _).2 ⟨fun _=>hi,fun _ x h=> ?_⟩,(Pf.lx_iff _ _).2 ⟨fun _=>hi,fun x h=> ?_⟩⟩
 ·rw [Pf.shape_eq]
  simp only[Bool.and_eq_true,List.all_eq_true]
  refine⟨⟨⟨?_,fun t h=>(ht t h).1⟩,fun f h=>(hf f h).1⟩,fun x h=> ?_⟩
  ·unfold Pf.head
   simp only[Pf.kind_mk,Pf.terms_mk,Pf.forms_mk,Pf.args_mk,Pf.index_mk,Pf.ty_mk,hn,h1,h2,h3,beq_self_eq_true,Bool.true_and,hi.1,decide_true]
   rw[Bool.and_eq_true]
   constructor
   ·rcases hi2 with h|h
    ·rw [h];rfl
    ·rw [h];simp
   ·by_cases hty:nd.typ=true
    ·rw [if_pos hty] at hs ⊢;exact hs
    ·rw [if_neg hty] at hs ⊢;exact hs
  ·obtain ⟨m,hm⟩:=hz x h
   exact hm.shape
 ·obtain ⟨m,hm⟩:=hz x h
  exact hm.ix
 ·obtain ⟨m,hm⟩:=hz x h
  exact hm.hx
 ·obtain ⟨m,hm⟩:=hz x h
  exact hm.lx
theorem Zru{s:Ty}(h:s.err=0):s.ok=true:=Zpc ((Ty.err_iff s).1 h).1 ((Ty.err_iff s).1 h).2
theorem wh{α:Type}{P:α→Prop}{a:α}(h:P a):∀x∈[a],P x:=fun x hx=>by simp only[List.mem_singleton] at hx;subst hx;exact h
theorem Zcq{α:Type}{P:α→Prop}{a b:α}(h:P a)(h':P b):∀x∈[a,b],P x:=fun x hx=>by
 simp only[List.mem_cons,List.not_mem_nil,or_false] at hx
 rcases hx with rfl|rfl
 ·exact h
 ·exact h'
theorem v7{α:Type}{P:α→Prop}:∀x∈([]:List α),P x:=fun x hx=>by cases hx
theorem Made.ref{t:Tm}(h:TmI t):Made 300010 (.mk 18 0 (.mk 0 []) [t] [] []):=
 .mk' rfl rfl rfl rfl (by omega) (.inr rfl) rfl (by decide) (wh h) v7 v7 (by rw[wc,v8];have:=h.2.2;simp;omega)
theorem Made.hyp{i:Int}(h:0≤i∧i<10000):Made 10 (va i):=
 .mk' (nd:=⟨0,0,0,true,false⟩) rfl rfl rfl rfl h (.inl rfl) rfl (fun _=>rfl) v7 v7 v7 (by rw[wc,v8];simp)
theorem Made.lem{i:Int}(h:0≤i∧i<10000):Made 10 (.mk 2 i (.mk 0 []) [] [] []):=
 .mk' (nd:=⟨0,0,0,true,false⟩) rfl rfl rfl rfl h (.inl rfl) rfl (fun _=>rfl) v7 v7 v7 (by rw[wc,v8];simp)
theorem Made.two{k:Int}(hk:k=3∨k=7∨k=11∨k=15){n m:Nat}{p q:Pf}(hp:Made n p)(hq:Made m q):Made (n+m+2) (.mk k 0 (.mk 0 []) [] [] [p,q]):=by
 have h:=hp.full
 have h':=hq.full
 refine .mk' (nd:=⟨0,0,2,false,false⟩) ?_ rfl rfl rfl (by omega) (.inr rfl) rfl (fun h=>by omega) v7 v7 (Zcq ⟨_,hp⟩ ⟨_,hq⟩) (by rw[wc,v8];simp;omega)
 rcases hk with rfl|rfl|rfl|rfl<;>rfl
theorem Made.one{k:Int}(hk:k=4∨k=5∨k=20){n:Nat}{p:Pf}(hp:Made n p):Made (n+2) (.mk k 0 (.mk 0 []) [] [] [p]):=by
 have h:=hp.full
 refine .mk' (nd:=⟨0,0,1,false,false⟩) ?_ rfl rfl rfl (by omega) (.inr rfl) rfl (fun h=>by omega) v7 v7 (wh ⟨_,hp⟩) (by rw[wc,v8];simp;omega)
 rcases hk with rfl|rfl|rfl<;>rfl
theorem Made.imp{f:Fm}(hf:FmI f){n:Nat}{p:Pf}(hp:Made n p):Made (n+300002) (.mk 6 0 (.mk 0 []) [] [f] [p]):=by
 have h:=hp.full
 have h':=hf.2.2
 exact .mk' (nd:=⟨0,1,1,false,false⟩) rfl rfl rfl rfl (by omega) (.inr rfl) rfl (fun h=>by omega) v7 (wh hf) (wh ⟨_,hp⟩) (by rw[wc,v8];simp;omega)
theorem Made.all{k:Int}(hk:k=8∨k=12){s:Ty}(hs:s.err=0){n:Nat}{p:Pf}(hp:Made n p):Made (n+65) (.mk k 0 s [] [] [p]):=by
 have h:=hp.full
 have h':=Zc1 hs
 refine .mk' (nd:=⟨0,0,1,false,true⟩) ?_ rfl rfl rfl (by omega) (.inr rfl) (Zru hs) (fun h=>by omega) v7 v7 (wh ⟨_,hp⟩) (by rw[wc];simp;omega)
 rcases hk with rfl|rfl<;>rfl
theorem Made.at_{k:Int}(hk:k=9∨k=13){t:Tm}(ht:TmI t){n:Nat}{p:Pf}(hp:Made n p):Made (n+300002) (.mk k 0 (.mk 0 []) [t] [] [p]):=by
 have h:=hp.full
 have h':=ht.2.2
 refine .mk' (nd:=⟨1,0,1,false,false⟩) ?_ rfl rfl rfl (by omega) (.inr rfl) rfl (fun h=>by omega) (wh ht) v7 (wh ⟨_,hp⟩) (by rw[wc,v8];simp;omega)
 rcases hk with rfl|rfl<;>rfl
theorem Made.ex{k:Int}(hk:k=10∨k=14){f:Fm}{t:Tm}(hf:FmI f)(ht:TmI t){n:Nat}{p:Pf}(hp:Made n p):Made (n+600002) (.mk k 0 (.mk 0 []) [t] [f] [p]):=by
 have h:=hp.full
 have h':=ht.2.2
 have h2:=hf.2.2
 refine .mk' (nd:=⟨1,1,1,false,false⟩) ?_ rfl rfl rfl (by omega) (.inr rfl) rfl (fun h=>by omega) (wh ht) (wh hf) (wh ⟨_,hp⟩) (by rw[wc,v8];simp;omega)
 rcases hk with rfl|rfl<;>rfl
theorem Made.ind{k:Int}(hk:k=16∨k=17){f:Fm}{t:Tm}(hf:FmI f)(ht:TmI t){n m:Nat}{p q:Pf}(hp:Made n p)(hq:Made m q):Made (n+m+600002) (.mk k 0 (.mk 0 []) [t] [f] [p,q]):=by
 have h:=hp.full
 have h1:=hq.full
 have h':=ht.2.2
 have h2:=hf.2.2
 refine .mk' (nd:=⟨1,1,2,false,false⟩) ?_ rfl rfl rfl (by omega) (.inr rfl) rfl (fun h=>by omega) (wh ht) (wh hf) (Zcq ⟨_,hp⟩ ⟨_,hq⟩) (by rw[wc,v8];simp;omega)
 rcases hk with rfl|rfl<;>rfl
theorem Made.sub{f:Fm}(hf:FmI f){n m:Nat}{p q:Pf}(hp:Made n p)(hq:Made m q):Made (n+m+300002) (.mk 19 0 (.mk 0 []) [] [f] [p,q]):=by
 have h:=hp.full
 have h1:=hq.full
 have h2:=hf.2.2
 exact .mk' (nd:=⟨0,1,2,false,false⟩) rfl rfl rfl rfl (by omega) (.inr rfl) rfl (fun h=>by omega) v7 (wh hf) (Zcq ⟨_,hp⟩ ⟨_,hq⟩) (by rw[wc,v8];simp;omega)
mutual
def Pf.pt(a:Int)(s:Tm)(v:Int):Pf→Pf
 | .mk k i h ts fs zs=> .mk k i h (ts.map fun t=>t.re (y5 (a+v) s) 0) (fs.map fun f=>f.put (a+(v+fvK k)) s) (Pf.pts a s v (vaK k) zs)
def Pf.pts(a:Int)(s:Tm)(v w:Int):List Pf→List Pf
 |[]=>[]
 |p::l=>Pf.pt a s (if l.length=0 then v+w else v) p::Pf.pts a s v w l
end
mutual
def Pf.ph(a:Int)(q:Pf)(v y:Int):Pf→Pf
 | .mk k i h ts fs zs=>if k=1 then(if i-y=a then q.uph v (a+y) else if i-y>a then va (i-1) else va i) else .mk k i h ts fs (Pf.phs a q v y (vaK k) (hyK k) zs)
def Pf.phs(a:Int)(q:Pf)(v y w z:Int):List Pf→List Pf
 |[]=>[]
 |p::l=>Pf.ph a q (if l.length=0 then v+w else v) (if l.length=0 then y+z else y) p::Pf.phs a q v y w z l
end
theorem Pf.pt_eq(a:Int)(s:Tm)(v:Int)(p:Pf):p.pt a s v= .mk p.kind p.index p.ty (p.terms.map fun t=>t.re (y5 (a+v) s) 0) (p.forms.map fun f=>f.put (a+(v+fvK p.kind)) s) (Pf.pts a s v (vaK p.kind) p.args):=by cases p;simp only[Pf.pt];rfl
theorem Zcx(a:Int)(s:Tm)(v w:Int):∀l:List Pf,(Pf.pts a s v w l).length=l.length
 |[]=>by simp only[Pf.pts]
 |p::l=>by simp only[Pf.pts,List.length_cons,Zcx a s v w l]
theorem Zi1(a:Int)(s:Tm)(v w:Int):∀(l:List Pf) (m:Nat) (h:m<l.length) (h':m<(Pf.pts a s v w l).length),(Pf.pts a s v w l)[m]=l[m].pt a s (if m+1=l.length then v+w else v)
 |p::l,0,h,h'=>by
  simp only[Pf.pts,List.getElem_cons_zero,List.length_cons]
  by_cases e:l.length=0
  ·rw [if_pos e,if_pos (by omega)]
  ·rw [if_neg e,if_neg (by omega)]
 |p::l,m+1,h,h'=>by
  simp only[Pf.pts,List.getElem_cons_succ,List.length_cons,Nat.add_right_cancel_iff]
  exact Zi1 a s v w l m (by simpa using h) _
theorem Zvr{a:Int}{s:Tm}{v w:Int}{l:List Pf}{m:Nat}(h:m<l.length):(Pf.pts a s v w l).take m++[l[m].pt a s (if m+1=l.length then v+w else v)]=(Pf.pts a s v w l).take (m+1):=by
 rw[←Zi1 a s v w l m h (by rw[Zcx];exact h),List.take_append_getElem]
theorem Zzt{a:Int}{s:Tm}{v w:Int}{l:List Pf}:(Pf.pts a s v w l).take l.length=Pf.pts a s v w l:=by rw[←Zcx a s v w l,List.take_length]
section
variable {α:Type}
mutual
def Pf.tfl(g:Int→Tm→α)(h:Int→Fm→α)(v:Int):Pf→List α
 | .mk k _ _ ts fs zs=>ts.map (g v)++fs.map (h (v+fvK k))++(Pf.tfls g h v (vaK k) zs).flatten
def Pf.tfls(g:Int→Tm→α)(h:Int→Fm→α)(v w:Int):List Pf→List (List α)
 |[]=>[]
 |p::l=>Pf.tfl g h (if l.length=0 then v+w else v) p::Pf.tfls g h v w l
end
mutual
def Pf.lfl(f:Int→Int→Int→List α)(y:Int):Pf→List α
 | .mk k i _ _ _ zs=>f k i y++(Pf.lfls f y (hyK k) zs).flatten
def Pf.lfls(f:Int→Int→Int→List α)(y w:Int):List Pf→List (List α)
 |[]=>[]
 |p::l=>Pf.lfl f (if l.length=0 then y+w else y) p::Pf.lfls f y w l
end
variable (g:Int→Tm→α) (h:Int→Fm→α) (f:Int→Int→Int→List α)
theorem Pf.tfl_eq(v:Int)(p:Pf):p.tfl g h v=p.terms.map (g v)++p.forms.map (h (v+fvK p.kind))++(Pf.tfls g h v (vaK p.kind) p.args).flatten:=by cases p;simp only[Pf.tfl];rfl
theorem Pf.lfl_eq(y:Int)(p:Pf):p.lfl f y=f p.kind p.index y++(Pf.lfls f y (hyK p.kind) p.args).flatten:=by cases p;simp only[Pf.lfl];rfl
theorem ug(v w:Int):∀l:List Pf,(Pf.tfls g h v w l).length=l.length
 |[]=>by simp only[Pf.tfls];rfl
 |p::l=>by simp only[Pf.tfls,List.length_cons,ug v w l]
theorem Zd1(y w:Int):∀l:List Pf,(Pf.lfls f y w l).length=l.length
 |[]=>by simp only[Pf.lfls];rfl
 |p::l=>by simp only[Pf.lfls,List.length_cons,Zd1 y w l]
theorem Zal(v w:Int):∀(l:List Pf) (m:Nat) (hm:m<l.length) (h':m<(Pf.tfls g h v w l).length),(Pf.tfls g h v w l)[m]=l[m].tfl g h (if m+1=l.length then v+w else v)
 |p::l,0,hm,h'=>by
  simp only[Pf.tfls,List.getElem_cons_zero,List.length_cons]
  by_cases e:l.length=0
  ·rw [if_pos e,if_pos (by omega)]
  ·rw [if_neg e,if_neg (by omega)]
 |p::l,m+1,hm,h'=>by
  simp only[Pf.tfls,List.getElem_cons_succ,List.length_cons,Nat.add_right_cancel_iff]
  exact Zal v w l m (by simpa using hm) _
theorem Zfl(y w:Int):∀(l:List Pf) (m:Nat) (hm:m<l.length) (h':m<(Pf.lfls f y w l).length),(Pf.lfls f y w l)[m]=l[m].lfl f (if m+1=l.length then y+w else y)
 |p::l,0,hm,h'=>by
  simp only[Pf.lfls,List.getElem_cons_zero,List.length_cons]
  by_cases e:l.length=0
  ·rw [if_pos e,if_pos (by omega)]
  ·rw [if_neg e,if_neg (by omega)]
 |p::l,m+1,hm,h'=>by
  simp only[Pf.lfls,List.getElem_cons_succ,List.length_cons,Nat.add_right_cancel_iff]
  exact Zfl y w l m (by simpa using hm) _
theorem Zdc{v w:Int}{l:List Pf}{m:Nat}(hm:m<l.length):((Pf.tfls g h v w l).take m).flatten++l[m].tfl g h (if m+1=l.length then v+w else v)=((Pf.tfls g h v w l).take (m+1)).flatten:=by
 rw[←Zal g h v w l m hm (by rw[ug];exact hm)];exact Zld _
theorem Zds{y w:Int}{l:List Pf}{m:Nat}(hm:m<l.length):((Pf.lfls f y w l).take m).flatten++l[m].lfl f (if m+1=l.length then y+w else y)=((Pf.lfls f y w l).take (m+1)).flatten:=by
 rw[←Zfl f y w l m hm (by rw[Zd1];exact hm)];exact Zld _
theorem Zfr{v w:Int}{l:List Pf}:(Pf.tfls g h v w l).take l.length=Pf.tfls g h v w l:=by rw[←ug g h v w l,List.take_length]
theorem Zfq{y w:Int}{l:List Pf}:(Pf.lfls f y w l).take l.length=Pf.lfls f y w l:=by rw[←Zd1 f y w l,List.take_length]
theorem Zy1(p:Pf):∀v,(p.tfl g h v).length≤p.full:=by
 induction p using Pf.ind with
 |h p ih=>
  intro v
  rw[Pf.tfl_eq,Pf.full_eq]
  have key:∀(l:List Pf) (w:Int),(∀x∈l,x∈p.args)→(Pf.tfls g h v w l).flatten.length≤(l.map Pf.full).sum:=by
   intro l w
   induction l with
   |nil=>intro _;simp[Pf.tfls]
   |cons x l ihl=>
    intro hx
    simp only[Pf.tfls,List.flatten_cons,List.length_append,List.map_cons,List.sum_cons]
    have h1:=ih x (hx x (by simp)) (if l.length=0 then v+w else v)
    have h2:=ihl fun y hy=>hx y (by simp[hy])
    omega
  have h1:=key p.args (vaK p.kind) fun _ h=>h
  have h2:=zc Tm.full Tm.full_pos p.terms
  have h3:=zc Fm.full Fm.full_pos p.forms
  simp only[List.length_append,List.length_map]
  omega
end
theorem Zjb{α β:Type}(X R:List β)(l:List α)(f:α→β)(m:Nat)(hm:m<l.length):X++(l.take m).map f++[f l[m]]<+:X++(l.map f++R):=by
 refine⟨(l.drop (m+1)).map f++R,?_⟩
 have h0:(l.take m++[l[m]])++l.drop (m+1)=l:=by rw[List.take_append_getElem hm,List.take_append_drop]
 have h:=congrArg (List.map f) h0
 rw[List.map_append,List.map_append] at h
 rw[←h];simp only[List.map_cons,List.map_nil,List.append_assoc]
theorem Znz{β:Type}(X:List β)(LL:List (List β))(m:Nat)(hm:m<LL.length):X++(LL.take m).flatten++LL[m]<+:X++LL.flatten:=by
 refine⟨(LL.drop (m+1)).flatten,?_⟩
 have h0:(LL.take m++[LL[m]])++LL.drop (m+1)=LL:=by rw[List.take_append_getElem hm,List.take_append_drop]
 have h:=congrArg List.flatten h0
 rw[List.flatten_append,List.flatten_append] at h
 rw[←h];simp only[List.flatten_cons,List.flatten_nil,List.append_nil,List.append_assoc]
def GrOk(l:List (Int×Int)):Prop:=(∀q∈l,(0≤q.1∧q.1≤4096)∧0≤q.2∧q.2≤4096)∧l.length≤1000000000
theorem GrOk.pre{l l':List (Int×Int)}(h:l<+:l')(ho:GrOk l'):GrOk l:=⟨fun q hq=>ho.1 q (h.subset hq),Nat.le_trans h.length_le ho.2⟩
def grN(n k:Int)(l:List (Int×Int)):Int:=n+(l.map fun q=>q.2*(k-1)).sum
def grB(k:Int)(l:List (Int×Int)):Bool:=l.any fun q=>decide (q.1+q.2*(k-1)>4096)
theorem Zob(n k:Int)(l:List (Int×Int))(q:Int×Int):grN n k (l++[q])=grN n k l+q.2*(k-1):=by
 unfold grN
 rw[List.map_append,List.sum_append]
 simp[Int.add_assoc]
theorem Zns(k:Int)(l:List (Int×Int))(q:Int×Int):grB k (l++[q])=(grB k l||decide (q.1+q.2*(k-1)>4096)):=by
 unfold grB
 rw[List.any_append]
 simp
theorem Zq1{n k:Int}(hk:1≤k∧k≤4096)(hn:0≤n∧n≤1000000):∀{l:List (Int×Int)},GrOk l→0≤grN n k l∧grN n k l≤1000000+16777216*l.length:=by
 intro l
 induction l with
 |nil=>intro _;simp[grN];omega
 |cons q l ih=>
  intro h
  have h1:=ih (⟨fun x hx=>h.1 x (by simp[hx]),by have:=h.2;simp at this;omega⟩)
  have h2:=(h.1 q (by simp)).2
  have e:grN n k (q::l)=grN n k l+q.2*(k-1):=by unfold grN;simp[Int.add_left_comm,Int.add_comm]
  have h3:0≤q.2*(k-1):=Int.mul_nonneg h2.1 (by omega)
  have h4:q.2*(k-1)≤4096*4095:=Int.mul_le_mul h2.2 (by omega) (by omega) (by omega)
  rw[e,List.length_cons]
  omega
def grG(a:Int)(v:Int)(t:Tm):Int×Int:=((t.size:Int),(cnt (a+v) (t.vars 0):Int))
def grH(a:Int)(v:Int)(f:Fm):Int×Int:=((f.size:Int),(wu (a+v) (f.tms 0):Int))
theorem Zc2{p:Pf}(h:p.small=true):(∀t∈p.terms,t.size≤4096)∧(∀f∈p.forms,f.size≤4096)∧∀x∈p.args,x.small=true:=by
 rw[Pf.small_eq] at h
 simp only[Bool.and_eq_true,List.all_eq_true,decide_eq_true_eq] at h
 exact⟨h.1.1,h.1.2,h.2⟩
theorem Ye7(a:Int)(p:Pf):p.small=true→p.full≤1000000000→∀v,GrOk (p.tfl (grG a) (grH a) v):=by
 intro hs hf v
 refine⟨?_,Nat.le_trans (Zy1 _ _ p v) hf⟩
 clear hf
 revert hs v
 induction p using Pf.ind with
 |h p ih=>
  intro hs v q hq
  obtain⟨s1,s2,s3⟩:=Zc2 hs
  rw[Pf.tfl_eq,List.mem_append,List.mem_append] at hq
  rcases hq with(hq|hq)|hq
  ·obtain ⟨t,ht,rfl⟩:=List.mem_map.1 hq
   have h1:=s1 t ht
   have h2:=Zn1 (a+v) (t.vars 0)
   have h3:=t.vars_len 0
   simp only[grG]
   omega
  ·obtain ⟨f,hf,rfl⟩:=List.mem_map.1 hq
   have h1:=s2 f hf
   have h2:=Zbv f (a+(v+fvK p.kind))
   simp only[grH]
   omega
  ·obtain ⟨l,hl,hq⟩:=List.mem_flatten.1 hq
   obtain⟨m,hm,rfl⟩:=List.getElem_of_mem hl
   rw[ug] at hm
   rw[Zal _ _ _ _ _ _ hm] at hq
   exact ih _ (List.getElem_mem hm) (s3 _ (List.getElem_mem hm)) _ q hq
def nhF(k i _y:Int):List Bool:=if k=1 then [decide (i≤536870912)] else []
def Ye8(a k i y:Int):List Int:=if k=1∧i-y=a then [i] else []
def hyF(k i y:Int):List Int:=if k=1∧i≥y then [i-y] else []
def Pf.nearP(p:Pf):Bool:=(p.tfl (fun(_:Int) (t:Tm)=>t.near) (fun(_:Int) (f:Fm)=>f.near) 0).all id
def Pf.nearH(p:Pf):Bool:=(p.lfl nhF 0).all id
theorem Zwv(p:Pf):p.shape=true→p.small=true→∀v,(p.tfl (fun(_:Int) (t:Tm)=>t.near) (fun(_:Int) (f:Fm)=>f.near) v).all id=true→p.ix 549755813888:=by
 induction p using Pf.ind with
 |h p ih=>
  intro hs hm v h
  obtain⟨s1,s2,s3⟩:=Zc2 hm
  obtain⟨_,s4,s5,s6⟩:=yl hs
  rw[Pf.tfl_eq,List.all_append,List.all_append,Bool.and_eq_true,Bool.and_eq_true] at h
  obtain⟨⟨h1,h2⟩,h3⟩:=h
  rw[List.all_eq_true] at h1 h2 h3
  refine(Pf.ix_iff _ p).2 ⟨fun t ht=> ?_,fun f hf=> ?_,fun x hx=> ?_⟩
  ·exact Ztn ((Tm.err_iff t).2 ⟨s4 t ht,s1 t ht⟩) (by simpa using h1 t.near (List.mem_map.2 ⟨t,ht,rfl⟩))
  ·exact Zow ((Fm.err_iff f).2 ⟨s5 f hf,s2 f hf⟩) (by simpa using h2 f.near (List.mem_map.2 ⟨f,hf,rfl⟩))
  ·obtain ⟨m,hm2,rfl⟩:=List.getElem_of_mem hx
   refine ih _ hx (s6 _ hx) (s3 _ hx) (if m+1=p.args.length then v+vaK p.kind else v) (List.all_eq_true.2 fun b hb=> ?_)
   rw[←Zal _ _ v (vaK p.kind) p.args m hm2 (by rw[ug];exact hm2)] at hb
   exact h3 b (List.mem_flatten.2 ⟨_,List.getElem_mem _,hb⟩)
theorem Zvy(p:Pf):p.ix 10000→∀v,(p.tfl (fun(_:Int) (t:Tm)=>t.near) (fun(_:Int) (f:Fm)=>f.near) v).all id=true:=by
 induction p using Pf.ind with
 |h p ih=>
  intro hix v
  obtain⟨i1,i2,i3⟩:=(Pf.ix_iff _ p).1 hix
  rw[Pf.tfl_eq,List.all_append,List.all_append,Bool.and_eq_true,Bool.and_eq_true]
  refine⟨⟨List.all_eq_true.2 fun b hb=> ?_,List.all_eq_true.2 fun b hb=> ?_⟩,List.all_eq_true.2 fun b hb=> ?_⟩
  ·obtain ⟨t,ht,rfl⟩:=List.mem_map.1 hb
   exact List.all_eq_true.2 fun q hq=>by have:=i1 t ht q hq;simp;omega
  ·obtain ⟨f,hf,rfl⟩:=List.mem_map.1 hb
   exact Zog (C:=10000) (by omega) fun q hq r hr=>by have:=i2 f hf q hq r hr;omega
  ·obtain ⟨l,hl,hb⟩:=List.mem_flatten.1 hb
   obtain⟨m,hm,rfl⟩:=List.getElem_of_mem hl
   rw[ug] at hm
   rw[Zal _ _ _ _ _ _ hm] at hb
   exact List.all_eq_true.1 (ih _ (List.getElem_mem hm) (i3 _ (List.getElem_mem hm)) _) b hb
theorem Zzd{p:Pf}{C C':Int}(h:p.ix C)(hc:C≤C'):p.ix C':=by
 induction p using Pf.ind with
 |h p ih=>
  obtain⟨i1,i2,i3⟩:=(Pf.ix_iff _ p).1 h
  exact(Pf.ix_iff _ p).2 ⟨fun t ht q hq=>by have:=i1 t ht q hq;omega,fun f hf q hq r hr=>by have:=i2 f hf q hq r hr;omega,fun x hx=>ih x hx (i3 x hx)⟩
theorem Zsi{p:Pf}{C C':Int}(h:p.hx C)(hc:C≤C'):p.hx C':=by
 induction p using Pf.ind with
 |h p ih=>
  obtain⟨i1,i2⟩:=(Pf.hx_iff _ p).1 h
  exact(Pf.hx_iff _ p).2 ⟨fun hk=>by have:=i1 hk;omega,fun hk x hx=>ih x hx (i2 hk x hx)⟩
def Ybl(p:Pf)(fr by_:Int):Int:=if p.err≠0 then p.err else if ¬(0≤fr∧fr≤4096)∨¬(0≤by_∧by_≤4096)∨p.nearP=false then 1 else 0
def liftHE(p:Pf)(fr by_:Int):Int:=if p.err≠0 then p.err else if ¬(0≤fr∧fr≤16384)∨¬(0≤by_∧by_≤16384)∨p.nearH=false then 1 else 0
def Zga(p:Pf)(a:Int)(s:Tm):List (Int×Int):=p.tfl (grG a) (grH a) 0
def Zbu(p:Pf)(a:Int)(s:Tm):Int:=
 if p.err≠0 then p.err else if ¬(0≤a∧a≤4096) then 1 else if s.err≠0 then s.err else if p.nearP=false∨s.near=false then 1
 else if grB s.size (Zga p a s)=true∨grN p.size s.size (Zga p a s)>16384 then 4 else 0
def cntH(p:Pf)(a:Int):Int:=(p.lfl (Ye8 a) 0).length
def Yex(p:Pf)(a:Int)(q:Pf):Int:=
 if p.err≠0 then p.err else if ¬(0≤a∧a≤16384) then 1 else if q.err≠0 then q.err else if p.nearH=false∨q.nearH=false∨q.nearP=false then 1
 else if(p.size:Int)+cntH p a*(q.size-1)>16384 then 4 else 0
section
variable {p q:Pf} {fr by_ a:Int} {s:Tm}
theorem Zr1(h:p.err≠0):Zbu p a s=p.err:=by unfold Zbu;rw[if_pos h]
theorem Yaf(h:p.err=0)(ha:¬(0≤a∧a≤4096)):Zbu p a s=1:=by unfold Zbu;rw[if_neg (by simp[h]),if_pos ha]
theorem Zzu(h:p.err=0)(ha:0≤a∧a≤4096)(hs:s.err≠0):Zbu p a s=s.err:=by unfold Zbu;rw[if_neg (by simp[h]),if_neg (fun g=>g ha),if_pos hs]
theorem Zyy(h:p.err=0)(ha:0≤a∧a≤4096)(hs:s.err=0)(hn:p.nearP=false∨s.near=false):Zbu p a s=1:=by unfold Zbu;rw[if_neg (by simp[h]),if_neg (fun g=>g ha),if_neg (by simp[hs]),if_pos hn]
theorem Ztq(h:p.err=0)(ha:0≤a∧a≤4096)(hs:s.err=0)(hn:¬(p.nearP=false∨s.near=false)):Zbu p a s=if grB s.size (Zga p a s)=true∨grN p.size s.size (Zga p a s)>16384 then 4 else 0:=by
 unfold Zbu;rw[if_neg (by simp[h]),if_neg (fun g=>g ha),if_neg (by simp[hs]),if_neg hn]
end
def lmF(k i _y:Int):List Int:=if k=2 then [i] else []
theorem Zlv(y w:Int):∀l:List Pf,(∀p∈l,∀y,p.hyl y=p.lfl hyF y)→Pf.hyls y w l=Pf.lfls hyF y w l
 |[],_=>by simp only[Pf.hyls,Pf.lfls]
 |p::l,h=>by
  simp only[Pf.hyls,Pf.lfls]
  rw[h p (by simp),Zlv y w l fun q hq=>h q (by simp[hq])]
theorem Zim(p:Pf):∀y,p.hyl y=p.lfl hyF y:=by
 induction p using Pf.ind with
 |h p ih=>
  intro y
  rw[Pf.hyl_eq,Pf.lfl_eq,Zlv _ _ _ ih]
  rfl
theorem Yc8(p:Pf):p.hyl 0=p.lfl hyF 0:=Zim p 0
theorem Zkg(y w:Int):∀l:List Pf,(∀p∈l,∀y,p.lml=p.lfl lmF y)→l.map Pf.lml=Pf.lfls lmF y w l
 |[],_=>by simp only[Pf.lfls];rfl
 |p::l,h=>by
  simp only[List.map_cons,Pf.lfls]
  rw[h p (by simp) (if l.length=0 then y+w else y),Zkg y w l fun q hq=>h q (by simp[hq])]
theorem Zjc(p:Pf):∀y,p.lml=p.lfl lmF y:=by
 induction p using Pf.ind with
 |h p ih=>
  intro y
  rw[Pf.lml_eq,Pf.lfl_eq,Zkg y (hyK p.kind) p.args ih]
  rfl
theorem Yba(p:Pf):p.lml=p.lfl lmF 0:=Zjc p 0
theorem Zfu{f:Int→Int→Int→List Int}(hf:∀k i y,(f k i y).length≤1)(p:Pf):∀y,(p.lfl f y).length≤p.full:=by
 induction p using Pf.ind with
 |h p ih=>
  intro y
  rw[Pf.lfl_eq,Pf.full_eq,List.length_append]
  have key:∀(l:List Pf) (w:Int),(∀x∈l,x∈p.args)→(Pf.lfls f y w l).flatten.length≤(l.map Pf.full).sum:=by
   intro l w
   induction l with
   |nil=>intro _;simp[Pf.lfls]
   |cons x l ihl=>
    intro hx
    simp only[Pf.lfls,List.flatten_cons,List.length_append,List.map_cons,List.sum_cons]
    have h1:=ih x (hx x (by simp)) (if l.length=0 then y+w else y)
    have h2:=ihl fun z hz=>hx z (by simp[hz])
    omega
  have h1:=key p.args (hyK p.kind) fun _ h=>h
  have h2:=hf p.kind p.index y
  omega
theorem Yds{x:Int}(h:0≤x∧x<9223372036854775808):(Lit.int .i64 x).wf=true:=by
 have h4:IntKind.i64.min≤x∧x≤IntKind.i64.max:=by
  rw[show IntKind.i64.min= -9223372036854775808 by rfl,show IntKind.i64.max=9223372036854775807 by rfl];omega
 simpa [Lit.wf] using h4
theorem Ydu(C:Int)(p:Pf):p.hx C→p.nd→∀y,0≤y→∀x∈p.lfl hyF y,0≤x∧x<C:=by
 induction p using Pf.ind with
 |h p ih=>
  intro hh hs y hy x hx
  obtain⟨i1,i2⟩:=(Pf.hx_iff _ p).1 hh
  obtain⟨⟨nd0,a1,a2⟩,a3⟩:=(Pf.nd_iff p).1 hs
  rw[Pf.lfl_eq,List.mem_append] at hx
  rcases hx with hx|hx
  ·unfold hyF at hx
   by_cases hk:p.kind=1∧p.index≥y
   ·rw [if_pos hk] at hx
    simp only[List.mem_singleton] at hx
    have:=i1 hk.1
    omega
   ·rw [if_neg hk] at hx;cases hx
  ·obtain ⟨l,hl,hx⟩:=List.mem_flatten.1 hx
   obtain⟨m,hm,rfl⟩:=List.getElem_of_mem hl
   rw[Zd1] at hm
   rw[Zfl _ _ _ _ _ hm] at hx
   have hk:p.kind≠1:=fun e=>by
    rw[e] at a1
    simp[ndP] at a1
    rw[←a1] at a2
    simp at a2
    simp[a2] at hm
   have b2:0≤hyK p.kind:=by unfold hyK;split<;>omega
   exact ih _ (List.getElem_mem hm) (i2 hk _ (List.getElem_mem hm)) (a3 _ (List.getElem_mem hm)) _ (by split<;>omega) x hx
theorem Ycg(C:Int)(p:Pf):p.lx C→∀y,∀x∈p.lfl lmF y,0≤x∧x<C:=by
 induction p using Pf.ind with
 |h p ih=>
  intro hh y x hx
  obtain⟨i1,i2⟩:=(Pf.lx_iff _ p).1 hh
  rw[Pf.lfl_eq,List.mem_append] at hx
  rcases hx with hx|hx
  ·unfold lmF at hx
   by_cases hk:p.kind=2
   ·rw [if_pos hk] at hx
    simp only[List.mem_singleton] at hx
    have:=i1 hk
    omega
   ·rw [if_neg hk] at hx;cases hx
  ·obtain ⟨l,hl,hx⟩:=List.mem_flatten.1 hx
   obtain⟨m,hm,rfl⟩:=List.getElem_of_mem hl
   rw[Zd1] at hm
   rw[Zfl _ _ _ _ _ hm] at hx
   exact ih _ (List.getElem_mem hm) (i2 _ (List.getElem_mem hm)) _ x hx
theorem Yb2(p:Pf)(hs:p.shape=true)(hf:p.full≤100000000000)(hx:p.hx 9223372036854775808):(∀x∈nub [] (p.lfl hyF 0),(Lit.int .i64 x).wf=true)∧(nub [] (p.lfl hyF 0)).length<549755813888:=by
 refine⟨fun x h=>Yds ?_,?_⟩
 ·rcases mem_nub.1 h with h|h
  ·cases h
  ·exact Ydu _ p hx (Yde p hs) 0 (by omega) x h
 ·have h1:=Zb7 (p.lfl hyF 0) []
  have h2:=Zfu (f:=hyF) (fun k i y=>by unfold hyF;split<;>simp) p 0
  simp at h1;omega
theorem Ya8(p:Pf)(hs:p.shape=true)(hf:p.full≤100000000000)(hx:p.lx 9223372036854775808):(∀x∈nub [] (p.lfl lmF 0),(Lit.int .i64 x).wf=true)∧(nub [] (p.lfl lmF 0)).length<549755813888:=by
 refine⟨fun x h=>Yds ?_,?_⟩
 ·rcases mem_nub.1 h with h|h
  ·cases h
  ·exact Ycg _ p hx 0 x h
 ·have h1:=Zb7 (p.lfl lmF 0) []
  have h2:=Zfu (f:=lmF) (fun k i y=>by unfold lmF;split<;>simp) p 0
  simp at h1;omega
theorem Zxg{p:Pf}{ts:List Tm}{fs:List Fm}{zs:List Pf}(hs:p.shape=true)(h1:ts.length=p.terms.length)(h2:fs.length=p.forms.length)(h3:zs.length=p.args.length)
 (a1:∀t∈ts,t.shape=true) (a2:∀f∈fs,f.shape=true) (a3:∀x∈zs,x.shape=true):(Pf.mk p.kind p.index p.ty ts fs zs).shape=true:=by
 obtain⟨h,_⟩:=yl hs
 rw[Pf.shape_eq]
 simp only[Bool.and_eq_true,List.all_eq_true]
 refine⟨⟨⟨?_,a1⟩,a2⟩,a3⟩
 obtain⟨k,i,y,t0,f0,z0⟩:=p
 simp only[Pf.kind_mk,Pf.index_mk,Pf.ty_mk,Pf.terms_mk,Pf.forms_mk,Pf.args_mk] at h1 h2 h3 ⊢
 unfold Pf.head at h ⊢
 simp only[Pf.kind_mk,Pf.index_mk,Pf.ty_mk,Pf.terms_mk,Pf.forms_mk,Pf.args_mk] at h ⊢
 cases hn:ndP k with
 |none=>rw[hn] at h;cases h
 |some n=>
  rw[hn] at h
  simp only[h1,h2,h3]
  exact h
def Pz(C:Int)(n:Nat)(p:Pf):Prop:=p.shape=true∧p.small=true∧p.size=n∧p.ix C
theorem Pz.err{C:Int}{n:Nat}{p:Pf}(h:Pz C n p)(hn:n≤16384):p.err=0:=(Pf.err_iff p).2 ⟨h.1,h.2.1,by rw[h.2.2.1];exact hn⟩
theorem Pz.near{C:Int}{n:Nat}{p:Pf}(h:Pz C n p)(hC:C≤1000000):p.nearP=true:=by
 have key:∀(p:Pf),p.ix C→∀v,(p.tfl (fun(_:Int) (t:Tm)=>t.near) (fun(_:Int) (f:Fm)=>f.near) v).all id=true:=by
  intro p
  induction p using Pf.ind with
  |h p ih=>
   intro hix v
   obtain⟨i1,i2,i3⟩:=(Pf.ix_iff _ p).1 hix
   rw[Pf.tfl_eq,List.all_append,List.all_append,Bool.and_eq_true,Bool.and_eq_true]
   refine⟨⟨List.all_eq_true.2 fun b hb=> ?_,List.all_eq_true.2 fun b hb=> ?_⟩,List.all_eq_true.2 fun b hb=> ?_⟩
   ·obtain ⟨t,ht,rfl⟩:=List.mem_map.1 hb
    exact List.all_eq_true.2 fun q hq=>by have:=i1 t ht q hq;simp;omega
   ·obtain ⟨f,hf,rfl⟩:=List.mem_map.1 hb
    exact Zog hC fun q hq r hr=>by have:=i2 f hf q hq r hr;omega
   ·obtain ⟨l,hl,hb⟩:=List.mem_flatten.1 hb
    obtain⟨m,hm,rfl⟩:=List.getElem_of_mem hl
    rw[ug] at hm
    rw[Zal _ _ _ _ _ _ hm] at hb
    exact List.all_eq_true.1 (ih _ (List.getElem_mem hm) (i3 _ (List.getElem_mem hm)) _) b hb
 exact key p h.2.2.2 0
section
variable {α:Type} (F:Int→Int→Int→List α)
theorem Zxp(a:Int)(s:Tm)(p:Pf):∀v y,(p.pt a s v).lfl F y=p.lfl F y:=by
 induction p using Pf.ind with
 |h p ih=>
  intro v y
  rw[Pf.pt_eq,Pf.lfl_eq,p.lfl_eq]
  simp only[Pf.kind_mk,Pf.index_mk,Pf.args_mk]
  congr 2
  have key:∀(l:List Pf),(∀x∈l,x∈p.args)→Pf.lfls F y (hyK p.kind) (Pf.pts a s v (vaK p.kind) l)=Pf.lfls F y (hyK p.kind) l:=by
   intro l
   induction l with
   |nil=>intro _;simp only[Pf.pts]
   |cons x l ihl=>
    intro hx
    simp only[Pf.pts,Pf.lfls,Zcx]
    rw[ihl fun z hz=>hx z (by simp[hz]),ih x (hx x (by simp))]
  exact key p.args fun _ h=>h
end
theorem Made.err{n:Nat}{p:Pf}(h:Made n p):p.err=0∨p.err=4:=by
 unfold Pf.err;rw[h.shape];simp only[Bool.true_eq_false,if_false];split
 ·exact .inr rfl
 ·exact .inl rfl
structure ComOk (p r:Pf) (t:Tm) (x y a a' s b:Pf) (e f g h i j:Int):Prop where
 res:(g=4∨j=4)∨(e=0∧f=0∧g=0∧h=0∧i=0∧j=0∧y=p∧a'=b)
 fx:x.full≤200000000
 fa:a.full≤200000000
 fs:s.full≤200000000
 fy:y.full≤200000000
 fa':a'.full≤200000000
 fb:b.full≤200000000
namespace Go.Ab
open Go
set_option linter.all false
def liftR(p:Pf)(fr b:Int):Pf:=if Ybl p fr b=0 then p.uw fr b 0 else Zuq
def Zqc(p:Pf)(a:Int)(s:Tm):Pf:=if Zbu p a s=0 then p.pt a s 0 else Zuq
def putHR(p:Pf)(a:Int)(q:Pf):Pf:=if Yex p a q=0 then Pf.ph a q 0 0 p else Zuq
theorem Zks{p:Pf}(h:p.err=0):p.full≤1064960:=by
 have h1:=(Pf.err_iff p).1 h
 have:=Zjj p h1.1
 omega
def Zus(k:Int)(l:List (Int×Int)):Int:=(l.map fun q=>q.2*(k-1)).sum
theorem Zjv(k:Int)(l l':List (Int×Int)):Zus k (l++l')=Zus k l+Zus k l':=by
 unfold Zus
 induction l with
 |nil=>simp
 |cons q l ih=>simp only[List.cons_append,List.map_cons,List.sum_cons];rw[ih];omega
theorem Zy8(n k:Int)(l:List (Int×Int)):grN n k l=n+Zus k l:=rfl
theorem Zsq{α:Type}{sz sz':α→Nat}{G:α→Int×Int}{k:Int}(l:List α)(h:∀x∈l,(sz' x:Int)=sz x+(G x).2*(k-1)):(((l.map sz').sum:Nat):Int)=((l.map sz).sum:Nat)+Zus k (l.map G):=by
 unfold Zus
 induction l with
 |nil=>simp
 |cons x l ih=>
  have h1:=h x (by simp)
  have h2:=ih fun y hy=>h y (by simp[hy])
  simp only[List.map_cons,List.sum_cons]
  omega
theorem Yej{s:Tm}{a:Int}(ha:0≤a)(hs:s.shape=true)(p:Pf):p.shape=true→∀v,0≤v→(∀q∈p.tfl (grG a) (grH a) v,q.1+q.2*((s.size:Int)-1)≤4096)→
 (p.pt a s v).shape=true∧(p.pt a s v).small=true∧((p.pt a s v).size:Int)=p.size+Zus s.size (p.tfl (grG a) (grH a) v):=by
 have sp:=s.size_pos
 have cast:∀(n c:Nat),((n+c*(s.size-1):Nat):Int)=(n:Int)+(c:Int)*((s.size:Int)-1):=fun n c=>by
  rw[Int.natCast_add,Int.natCast_mul,show(((s.size-1:Nat)):Int)=(s.size:Int)-1 by omega]
 induction p using Pf.ind with
 |h p ih=>
  intro hp v hv hq
  obtain⟨_,s4,s5,s6⟩:=yl hp
  have fv:0≤fvK p.kind:=by unfold fvK;split<;>(try split)<;>omega
  have b1:0≤vaK p.kind:=by unfold vaK;split<;>(try split)<;>omega
  rw[Pf.tfl_eq] at hq ⊢
  have zt:∀t∈p.terms,((t.re (y5 (a+v) s) 0).size:Int)=t.size+(grG a v t).2*((s.size:Int)-1):=fun t ht=>by
   rw[Zfd (a+v) s t hs 0 (s4 t ht),cast];rfl
  have zf:∀f∈p.forms,((f.put (a+(v+fvK p.kind)) s).size:Int)=f.size+(grH a (v+fvK p.kind) f).2*((s.size:Int)-1):=fun f hf=>by
   have e:(f.put (a+(v+fvK p.kind)) s).size=f.size+wu (a+(v+fvK p.kind)) (f.tms 0)*(s.size-1):=Zbq (a+(v+fvK p.kind)) s hs f (s5 f hf) 0
   rw[e,cast];unfold grH;rw[show a+(v+fvK p.kind)=a+(v+fvK p.kind) from rfl]
  have key:∀(l:List Pf),(∀x∈l,x∈p.args)→(∀q∈(Pf.tfls (grG a) (grH a) v (vaK p.kind) l).flatten,q.1+q.2*((s.size:Int)-1)≤4096)→
   (∀x∈Pf.pts a s v (vaK p.kind) l,x.shape=true∧x.small=true)∧((((Pf.pts a s v (vaK p.kind) l).map Pf.size).sum:Nat):Int)=((l.map Pf.size).sum:Nat)+Zus s.size (Pf.tfls (grG a) (grH a) v (vaK p.kind) l).flatten:=by
   intro l
   induction l with
   |nil=>intro _ _;simp[Pf.pts,Pf.tfls,Zus]
   |cons x l ihl=>
    intro hx hq
    simp only[Pf.tfls,List.flatten_cons,List.mem_append] at hq
    obtain⟨a1,a2⟩:=ihl (fun z hz=>hx z (by simp[hz])) fun q h=>hq q (.inr h)
    obtain⟨c1,c2,c3⟩:=ih x (hx x (by simp)) (s6 x (hx x (by simp))) (if l.length=0 then v+vaK p.kind else v) (by split<;>omega) fun q h=>hq q (.inl h)
    simp only[Pf.pts,Pf.tfls,List.mem_cons,List.map_cons,List.sum_cons,List.flatten_cons]
    refine⟨fun z hz=> ?_,?_⟩
    ·rcases hz with rfl|hz
     ·exact ⟨c1,c2⟩
     ·exact a1 z hz
    ·rw [Zjv,Int.natCast_add,a2,c3];omega
  simp only[List.mem_append] at hq
  obtain⟨k1,k2⟩:=key p.args (fun _ h=>h) fun q h=>hq q (.inr h)
  rw[Pf.pt_eq]
  refine⟨Zxg hp (List.length_map ..) (List.length_map ..) (Zcx _ _ _ _ _) (fun y hy=> ?_) (fun y hy=> ?_) (fun x h=>(k1 x h).1),?_,?_⟩
  ·obtain ⟨t,ht,rfl⟩:=List.mem_map.1 hy
   exact Zd6 0 hs (s4 t ht) (by omega) (by omega) (fun p hp=>uj t 0 p hp)
  ·obtain ⟨f,hf,rfl⟩:=List.mem_map.1 hy
   exact Zcl (by omega) hs (s5 f hf)
  ·rw [Pf.small_eq]
   simp only[Bool.and_eq_true,List.all_eq_true,decide_eq_true_eq,Pf.terms_mk,Pf.forms_mk,Pf.args_mk]
   refine⟨⟨fun y hy=> ?_,fun y hy=> ?_⟩,fun x h=>(k1 x h).2⟩
   ·obtain ⟨t,ht,rfl⟩:=List.mem_map.1 hy
    have:=hq _ (.inl (.inl (List.mem_map.2 ⟨t,ht,rfl⟩)))
    have:=zt t ht
    have:(grG a v t).1=t.size:=rfl
    omega
   ·obtain ⟨f,hf,rfl⟩:=List.mem_map.1 hy
    have:=hq _ (.inl (.inr (List.mem_map.2 ⟨f,hf,rfl⟩)))
    have:=zf f hf
    have:(grH a (v+fvK p.kind) f).1=f.size:=rfl
    omega
  ·rw [Pf.size_eq,p.size_eq]
   simp only[Pf.terms_mk,Pf.forms_mk,Pf.args_mk,List.map_map]
   have q1:=Zsq (sz:=Tm.size) (sz':=Tm.size∘fun t=>t.re (y5 (a+v) s) 0) (G:=grG a v) (k:=s.size) p.terms zt
   have q2:=Zsq (sz:=Fm.size) (sz':=Fm.size∘fun f=>f.put (a+(v+fvK p.kind)) s) (G:=grH a (v+fvK p.kind)) (k:=s.size) p.forms zf
   rw[Zjv,Zjv]
   omega
theorem Yei(C a:Int)(s:Tm)(p:Pf):p.hx C→∀v,(p.pt a s v).hx C:=by
 induction p using Pf.ind with
 |h p ih=>
  intro h v
  obtain⟨h1,h2⟩:=(Pf.hx_iff C p).1 h
  rw[Pf.pt_eq,Pf.hx_iff]
  simp only[Pf.kind_mk,Pf.index_mk,Pf.args_mk]
  refine⟨h1,fun hk x hx=> ?_⟩
  obtain⟨m,hm,rfl⟩:=List.getElem_of_mem hx
  rw[Zcx] at hm
  rw[Zi1 _ _ _ _ _ _ hm]
  exact ih _ (List.getElem_mem hm) (h2 hk _ (List.getElem_mem hm)) _
theorem Yfb(C a:Int)(s:Tm)(p:Pf):p.lx C→∀v,(p.pt a s v).lx C:=by
 induction p using Pf.ind with
 |h p ih=>
  intro h v
  obtain⟨h1,h2⟩:=(Pf.lx_iff C p).1 h
  rw[Pf.pt_eq,Pf.lx_iff]
  simp only[Pf.kind_mk,Pf.index_mk,Pf.args_mk]
  refine⟨h1,fun x hx=> ?_⟩
  obtain⟨m,hm,rfl⟩:=List.getElem_of_mem hx
  rw[Zcx] at hm
  rw[Zi1 _ _ _ _ _ _ hm]
  exact ih _ (List.getElem_mem hm) (h2 _ (List.getElem_mem hm)) _
theorem Zsa{p:Pf}{C C':Int}(h:p.lx C)(hc:C≤C'):p.lx C':=by
 induction p using Pf.ind with
 |h p ih=>
  obtain⟨h1,h2⟩:=(Pf.lx_iff C p).1 h
  exact(Pf.lx_iff C' p).2 ⟨fun hk=>by have:=h1 hk;omega,fun x hx=>ih x hx (h2 x hx)⟩
def Zxa(p q:Pf):Pf:= .mk 3 0 (.mk 0 []) [] [] [p,q]
theorem Ydr{p:Pf}(he:p.err=0)(hz:p.size≤5000):(Zxa p p).err=0∧(Zxa p p).size=2*p.size+1:=by
 obtain⟨g1,g2,g3⟩:=(Pf.err_iff p).1 he
 have hs:(Zxa p p).size=2*p.size+1:=by rw[Pf.size_eq];simp[Zxa];omega
 refine⟨(Pf.err_iff _).2 ⟨?_,?_,by omega⟩,hs⟩
 ·rw [Pf.shape_eq];simp[Zxa,g1,Pf.head,ndP,Ty.isNo,Ty.kind,Ty.args]
 ·rw [Pf.small_eq];simp[Zxa,g2]
theorem Yd7{n:Nat}{p:Pf}{t:Tm}{a:Int}(hp:Made n p)(ha:0≤a∧a≤4096)(ht:t.err=0)(htn:t.near=true):
 Zbu p a t=4∨(p.err=0∧Zbu p a t=0∧(Zqc p a t).err=0∧Zdp (Zqc p a t)=Zdp p∧Ze6 (Zqc p a t)=Ze6 p∧(Zqc p a t).hx 10000∧(Zqc p a t).lx 10000):=by
 rcases hp.err with he|he
 case inr=>exact .inl (by rw[Zr1 (by omega),he])
 obtain⟨g1,g2,g3⟩:=(Pf.err_iff p).1 he
 have h5:=Ztq (a:=a) he ha ht (by rw[show p.nearP=true from Zvy p hp.ix 0,htn];simp)
 by_cases hb:grB t.size (Zga p a t)=true∨grN p.size t.size (Zga p a t)>16384
 ·rw [if_pos hb] at h5;exact .inl h5
 rw[if_neg hb] at h5
 have e:Zqc p a t=p.pt a t 0:=by unfold Zqc;rw[if_pos h5]
 have hB:grB t.size (Zga p a t)=false:=by cases h:grB t.size (Zga p a t) with|false=>rfl|true=>exact absurd (.inl h) hb
 unfold grB at hB
 rw[List.any_eq_false] at hB
 have hN:grN p.size t.size (Zga p a t)≤16384:=by
  refine Int.not_lt.1 fun h=>hb (.inr h)
 rw[Zy8] at hN
 obtain⟨k1,k2,k3⟩:=Yej ha.1 ((Tm.err_iff t).1 ht).1 p g1 0 (by omega) fun q hq=>by
  have:=hB q hq
  simp at this
  omega
 unfold Zga at hN
 refine .inr ⟨he,h5,?_,?_,?_,?_,?_⟩
 ·rw [e,Pf.err_iff];exact⟨k1,k2,by omega⟩
 ·rw [e];unfold Zdp;rw[Zim,Zim,Zxp]
 ·rw [e];unfold Ze6;rw[Zjc _ 0,Zjc p 0,Zxp]
 ·rw [e];exact Yei _ _ _ _ hp.hx 0
 ·rw [e];exact Yfb _ _ _ _ hp.lx 0
theorem Zwa(p:Pf)(hf:p.full≤100000000000):(Zdp p).length<1099511627776:=by
 unfold Zdp
 rw[Zdj,Zim]
 have h1:=Zb7 (p.lfl hyF 0) []
 have h2:=Zfu (f:=hyF) (fun k i y=>by unfold hyF;split<;>simp) p 0
 simp at h1;omega
theorem Zv0(p:Pf)(hf:p.full≤100000000000):(Ze6 p).length<1099511627776:=by
 unfold Ze6
 rw[Zdj,Zjc p 0]
 have h1:=Zb7 (p.lfl lmF 0) []
 have h2:=Zfu (f:=lmF) (fun k i y=>by unfold lmF;split<;>simp) p 0
 simp at h1;omega
end Go.Ab
