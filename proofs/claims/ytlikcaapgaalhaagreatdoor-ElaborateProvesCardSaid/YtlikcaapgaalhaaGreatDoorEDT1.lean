/- A part of this seat's proofs. No conditions. -/
import Derived.Test.YtlikcaapgaalhaaGreatDoorEAT1
import Derived.Test.YtlikcaapgaalhaaGreatDoorED1
namespace Go.Ab
open Go
set_option linter.all false
theorem kA_none{k:Int}:∀{l:List Int},k∉l→keyAt k l=none
 |[],_=>rfl
 |x::l,h=>by
  simp only[List.mem_cons,not_or] at h
  have h1:¬x=k:=fun e=>h.1 e.symm
  simp only[keyAt,if_neg h1,kA_none h.2,Option.map_none]
theorem kA_some{k:Int}:∀{l:List Int},k∈l→∃i,keyAt k l=some i
 |[],h=>by cases h
 |x::l,h=>by
  by_cases hx:x=k
  ·exact ⟨0,by simp[keyAt,hx]⟩
  ·obtain ⟨i,hi⟩:=kA_some (l:=l) (by rcases List.mem_cons.1 h with h|h;exact absurd h.symm hx;exact h)
   exact⟨i+1,by simp[keyAt,hx,hi]⟩
theorem putKs_eq(k:Int)(ks:List Int):putKs k ks=if k∈ks then ks else ks++[k]:=by
 by_cases h:k∈ks
 ·obtain ⟨i,hi⟩:=kA_some h
  rw[if_pos h,putKs,hi]
 ·rw [if_neg h,putKs,kA_none h]
theorem mem_putKs{k x:Int}{ks:List Int}:x∈putKs k ks↔x∈ks∨x=k:=by
 rw[putKs_eq]
 grind
theorem nodup_putKs{k:Int}{ks:List Int}(h:ks.Nodup):(putKs k ks).Nodup:=by
 rw[putKs_eq]
 grind
theorem putCs_same(k:Int)(ks:List Int)(b:Bool):putCs k ks (List.replicate ks.length b) b=List.replicate (putKs k ks).length b:=by
 unfold putCs putKs
 split
 ·simp
 ·rw [List.length_append,←List.replicate_append_replicate];rfl
def nub(acc l:List Int):List Int:=l.foldl (fun ks k=>putKs k ks) acc
theorem nub_app(acc l l':List Int):nub acc (l++l')=nub (nub acc l) l':=List.foldl_append
theorem nub_nil(acc:List Int):nub acc []=acc:=rfl
theorem nub_one(acc:List Int)(k:Int):nub acc [k]=putKs k acc:=rfl
theorem mem_nub{x:Int}:∀{l acc:List Int},x∈nub acc l↔x∈acc∨x∈l
 |[],acc=>by simp[nub]
 |k::l,acc=>by
  show x∈nub (putKs k acc) l↔_
  rw[mem_nub,mem_putKs,List.mem_cons,or_assoc]
theorem nodup_nub:∀{l acc:List Int},acc.Nodup→(nub acc l).Nodup
 |[],acc,h=>h
 |k::l,acc,h=>nodup_nub (l:=l) (nodup_putKs h)
theorem nub_len:∀(l acc:List Int),(nub acc l).length≤acc.length+l.length
 |[],acc=>by simp[nub]
 |k::l,acc=>by
  have h1:=nub_len l (putKs k acc)
  have h2:(putKs k acc).length≤acc.length+1:=by rw[putKs_eq];grind
  show(nub (putKs k acc) l).length≤_
  grind
def fre(l:List (Int×Int)):List Int:=l.filterMap fun p=>if p.2≤p.1 then some (p.1-p.2) else none
theorem fre_app(l l':List (Int×Int)):fre (l++l')=fre l++fre l':=List.filterMap_append
theorem fre_nil:fre []=[]:=rfl
theorem fre_one(i b:Int):fre [(i,b)]=if b≤i then [i-b] else []:=by
 by_cases h:b≤i
 ·simp [fre,h]
 ·simp [fre,h]
theorem fre_len(l:List (Int×Int)):(fre l).length≤l.length:=List.length_filterMap_le _ _
theorem mem_fre{x:Int}{l:List (Int×Int)}:x∈fre l↔0≤x∧∃p∈l,p.1-p.2=x:=by
 simp only[fre,List.mem_filterMap]
 grind
theorem mem_cnt{x:Int}:∀{l:List (Int×Int)},(∃p∈l,p.1-p.2=x)↔cnt x l≠0
 |[]=>by simp[cnt]
 |p::l=>by
  have ih:=mem_cnt (x:=x) (l:=l)
  rw[show p::l=[p]++l from rfl,cnt_append,cnt_one]
  grind
def useK(t:Tm):List Int:=nub [] (fre (t.vars 0))
def usesI(t:Tm):List Int:=sortI (useK t)
theorem useK_nodup(t:Tm):(useK t).Nodup:=nodup_nub List.nodup_nil
theorem mem_useK{t:Tm}{x:Int}:x∈useK t↔0≤x∧cnt x (t.vars 0)≠0:=by rw[useK,mem_nub,mem_fre,mem_cnt];simp
theorem useK_len(t:Tm):(useK t).length≤t.size:=by
 have h1:=nub_len (fre (t.vars 0)) []
 have h2:=fre_len (t.vars 0)
 have h3:=t.vars_len 0
 simp only[useK,List.length_nil] at*;omega
theorem sortI_perm(l:List Int):(sortI l).Perm l:=List.mergeSort_perm l _
theorem sortI_sorted(l:List Int):(sortI l).Pairwise (·≤·):=by
 have h:=List.pairwise_mergeSort (le:=fun x y:Int=>decide (x≤y)) (fun a b c h1 h2=>by grind) (fun a b=>by grind) l
 exact h.imp fun h=>by grind
theorem sorted_eq{l l':List Int}(hp:l.Perm l')(h:l.Pairwise (·≤·))(h':l'.Pairwise (·≤·)):l=l':=
 hp.eq_of_pairwise (le:=(·≤·)) (fun a b _ _ h1 h2=>by omega) h h'
theorem sortI_of_perm{l l':List Int}(hp:l.Perm l'):sortI l=sortI l':=
 sorted_eq ((sortI_perm l).trans (hp.trans (sortI_perm l').symm)) (sortI_sorted l) (sortI_sorted l')
theorem mem_usesI{t:Tm}{x:Int}:x∈usesI t↔0≤x∧cnt x (t.vars 0)≠0:=by rw[usesI,(sortI_perm _).mem_iff,mem_useK]
theorem usesI_nodup(t:Tm):(usesI t).Nodup:=(sortI_perm _).nodup_iff.2 (useK_nodup t)
def insS(l:List Int)(n:Int)(i:Nat):List Int:=l.take i++(l.getD i n::l.drop i)
def insE(l:List Int)(n:Int)(i:Nat):List Int:=l.take i++n::l.drop i
theorem insS_end(l:List Int)(n:Int):insS l n l.length=l++[n]:=by simp[insS]
theorem insS_len{l:List Int}{n:Int}{i:Nat}(h:i≤l.length):(insS l n i).length=l.length+1:=by simp[insS];omega
theorem insS_at{l:List Int}{n:Int}{i:Nat}(h:i<l.length)(h':i<(insS l n (i+1)).length):(insS l n (i+1))[i]=l[i]:=by
 simp only[insS]
 grind
theorem insS_step{l:List Int}{n:Int}{i:Nat}(h:i<l.length):(insS l n (i+1)).set (i+1) l[i]=insS l n i:=by
 have h1:(l.take (i+1)).length=i+1:=by grind
 simp only[insS]
 have e:l.take (i+1)=l.take i++[l[i]]:=by simp
 rw[List.set_append_right (h:=by omega),h1,Nat.sub_self,List.set_cons_zero,e,List.append_assoc,List.singleton_append,←List.drop_eq_getElem_cons h]
 grind
theorem insS_done{l:List Int}{n:Int}{i:Nat}(h:i≤l.length):(insS l n i).set i n=insE l n i:=by
 have h1:(l.take i).length=i:=by grind
 simp only[insS,insE]
 simp_all
theorem insE_perm(l:List Int)(n:Int)(i:Nat):(insE l n i).Perm (n::l):=by
 have h1:(insE l n i).Perm (n::(l.take i++l.drop i)):=List.perm_middle
 simp_all
theorem insE_sorted{l:List Int}{n:Int}{i:Nat}(hs:l.Pairwise (·≤·))(h:∀x∈l.drop i,n<x)(h':∀(hi:0<i) (hl:i-1<l.length),l[i-1]≤n)(hil:i≤l.length):(insE l n i).Pairwise (·≤·):=by
 have hs':=hs
 rw[←List.take_append_drop i l,List.pairwise_append] at hs
 obtain⟨h1,h2,h3⟩:=hs
 have ht:∀x∈l.take i,x≤n:=fun x hx=>by
  obtain⟨j,hj,hx2⟩:=List.mem_iff_getElem.1 hx
  have hj2:j<i:=by grind
  rw[List.getElem_take] at hx2
  have h4:=h' (by omega) (by omega)
  rcases Nat.lt_or_ge j (i-1) with h5|h5
  ·have:=List.pairwise_iff_getElem.1 hs' j (i-1) (by omega) (by omega) h5
   omega
  grind
 rw[insE,List.pairwise_append]
 refine⟨h1,List.pairwise_cons.2 ⟨fun x hx=>by grind,h2⟩,fun x hx y hy=> ?_⟩
 grind
theorem sortI_ins{d:List Int}{n:Int}{i:Nat}(h:∀x∈(sortI d).drop i,n<x)(h':∀(hi:0<i) (hl:i-1<(sortI d).length),(sortI d)[i-1]≤n)(hil:i≤(sortI d).length):insE (sortI d) n i=sortI (d++[n]):=by
 refine sorted_eq ?_ (insE_sorted (sortI_sorted d) h h' hil) (sortI_sorted _)
 refine((insE_perm _ _ _).trans ((sortI_perm d).cons n)).trans (?_:(n::d).Perm _)
 exact((List.perm_append_comm (l₁:=[n]) (l₂:=d)).trans (sortI_perm _).symm)
theorem sortI_len(d:List Int):(sortI d).length=d.length:=(sortI_perm d).length_eq
theorem sortI_nil:sortI []=[]:=List.mergeSort_nil
theorem nodup_sub:∀{l ks:List Int},l.Nodup→(∀x∈l,x∈ks)→l.length≤ks.length
 |[],_,_,_=>Nat.zero_le _
 |x::l,ks,hn,h=>by
  obtain⟨h1,h2⟩:=List.nodup_cons.1 hn
  have h3:=h x (by simp)
  have h4:=nodup_sub (l:=l) (ks:=ks.erase x) h2 fun y hy=>(List.mem_erase_of_ne (fun e:y=x=>h1 (by grind))).2 (h y (by grind))
  grind
def Fm.lft(f:Fm)(fr by_:Int):Fm:=f.re (fun b t=>t.re (liftG (fr+b) by_) 0) 0
def falseF:Fm:=eqF (.mk 4 0 (.mk 0 []) []) (.mk 5 0 (.mk 0 []) [.mk 4 0 (.mk 0 []) []])
theorem fshape_kinds{f:Fm}(h:f.shape=true):
 (f.kind=1∧f.args=[])∨((f.kind=2∨f.kind=3)∧f.terms=[])∨((f.kind=4∨f.kind=5∨f.kind=6∨f.kind=7)∧f.terms=[]∧f.ty.err=0):=by
 rw[Fm.shape_eq,Bool.and_eq_true,Bool.and_eq_true] at h
 have h1:=h.1.1
 unfold Fm.head at h1
 by_cases h2:f.kind=1
 ·rw [if_pos h2] at h1
  simp only[Bool.and_eq_true,beq_iff_eq,List.length_eq_zero_iff] at h1
  exact .inl ⟨h2,h1.2⟩
 rw[if_neg h2] at h1
 by_cases h3:f.kind=2∨f.kind=3
 ·rw [if_pos h3] at h1
  simp only[Bool.and_eq_true,beq_iff_eq,List.length_eq_zero_iff] at h1
  exact .inr (.inl ⟨h3,h1.1.2⟩)
 rw[if_neg h3] at h1
 by_cases h4:f.kind=4∨f.kind=5∨f.kind=6∨f.kind=7
 ·rw [if_pos h4] at h1
  simp only[Bool.and_eq_true,beq_iff_eq,List.length_eq_zero_iff] at h1
  refine .inr (.inr ⟨h4,h1.1.2,(Ty.err_iff f.ty).2 ?_⟩)
  have:=h1.1.1
  simp only[Ty.ok,Bool.and_eq_true,decide_eq_true_eq] at this
  exact this
 rw[if_neg h4] at h1
 cases h1
theorem map_same{α:Type}{f g:α→Nat}{l:List α}(h:∀x∈l,f x=g x):(l.map f).sum=(l.map g).sum:=by rw[List.map_congr_left h]
theorem re_keeps{G:Int→Tm→Tm}(hG:∀b t,t.shape=true→(G b t).shape=true∧(G b t).size=t.size∧(G b t).full=t.full)(f:Fm):∀b,f.shape=true→(f.re G b).shape=true∧(f.re G b).size=f.size∧(f.re G b).full=f.full:=by
 induction f using Fm.ind with
 |h f ih=>
  intro b hf
  have h0:=hf
  rw[Fm.shape_eq,Bool.and_eq_true,Bool.and_eq_true] at h0
  obtain⟨⟨h1,h2⟩,h3⟩:=h0
  rw[Fm.re_eq]
  refine⟨?_,?_,?_⟩
  ·rw [Fm.shape_eq,Bool.and_eq_true,Bool.and_eq_true]
   refine⟨⟨?_,?_⟩,?_⟩
   ·simp only[Fm.head,Fm.kind_mk,Fm.ty_mk,Fm.terms_mk,Fm.args_mk,List.length_map] at h1 ⊢
    exact h1
   all_goals simp_all
  ·rw [Fm.size_eq,f.size_eq]
   simp only[Fm.terms_mk,Fm.args_mk,List.map_map]
   rw[map_same (f:=Tm.size∘G b) (g:=Tm.size) fun x hx=>(hG b x (List.all_eq_true.1 h2 x hx)).2.1,map_same (f:=Fm.size∘Fm.re G (upF f.kind b)) (g:=Fm.size) fun x hx=>(ih x hx _ (List.all_eq_true.1 h3 x hx)).2.1]
  ·rw [Fm.full_eq,f.full_eq]
   simp only[Fm.terms_mk,Fm.args_mk,Fm.ty_mk,List.map_map]
   rw[map_same (f:=Tm.full∘G b) (g:=Tm.full) fun x hx=>(hG b x (List.all_eq_true.1 h2 x hx)).2.2,map_same (f:=Fm.full∘Fm.re G (upF f.kind b)) (g:=Fm.full) fun x hx=>(ih x hx _ (List.all_eq_true.1 h3 x hx)).2.2]
theorem lft_keeps{f:Fm}(hf:f.shape=true){fr by_:Int}(hb:0≤by_):(f.lft fr by_).shape=true∧(f.lft fr by_).size=f.size∧(f.lft fr by_).full=f.full:=
 re_keeps (fun b t ht=>⟨lift_shape 0 ht hb,lift_size _ _ t 0 ht,lift_full _ _ t 0 ht⟩) f 0 hf
theorem fokT_lft(g m:List Ty)(fr:Int)(f:Fm):∀(h:List Ty) (b:Int),(h.length:Int)=fr+b→f.shape=true→f.okT (g++h)→
 (f.re (fun b t=>t.re (liftG (fr+b) m.length) 0) b).okT (g++m++h):=by
 induction f using Fm.ind with
 |h f ih=>
  intro h b hb hf hok
  rw[Fm.okT_iff] at hok
  rw[Fm.re_eq,Fm.okT_iff]
  simp only[Fm.terms_mk,Fm.args_mk]
  refine⟨fun y hy=> ?_,fun y hy=> ?_⟩
  ·obtain ⟨x,hx,rfl⟩:=List.mem_map.1 hy
   rw[lift_inf x g m h (fr+b) 0 (fshape_terms hf hx) (by omega)]
   grind
  ·obtain ⟨x,hx,rfl⟩:=List.mem_map.1 hy
   have h1:=hok.2 x hx
   by_cases hq:quantK f.kind=true
   ·rw [ctxF_q hq] at h1
    rw[show ∀ts fs,ctxF (g++m++h) (Fm.mk f.kind f.ty ts fs)=g++m++h++[f.ty] from fun ts fs=>ctxF_q (f:=Fm.mk f.kind f.ty ts fs) hq]
    have e:upF f.kind b=b+1:=if_pos hq
    rw[e,List.append_assoc (g++m)]
    rw[List.append_assoc] at h1
    exact ih x hx (h++[f.ty]) (b+1) (by grind) (fshape_args hf hx) h1
   ·rw [ctxF_n hq] at h1
    rw[show ∀ts fs,ctxF (g++m++h) (Fm.mk f.kind f.ty ts fs)=g++m++h from fun ts fs=>ctxF_n (f:=Fm.mk f.kind f.ty ts fs) hq]
    have e:upF f.kind b=b:=if_neg hq
    rw[e]
    exact ih x hx h b hb (fshape_args hf hx) h1
theorem lft_err{f:Fm}(he:f.err=0){fr by_:Int}(hb:0≤by_):(f.lft fr by_).err=0:=by
 have h1:=(Fm.err_iff f).1 he
 obtain⟨h2,h3,_⟩:=lft_keeps h1.1 (fr:=fr) hb
 exact(Fm.err_iff _).2 ⟨h2,by omega⟩
theorem falseF_okT(g:List Ty):falseF.okT g:=by
 rw[Fm.okT_iff]
 refine⟨fun t ht=> ?_,fun x hx=>by simp[falseF,eqF] at hx⟩
 simp only[falseF,eqF,Fm.terms_mk,List.mem_cons,List.not_mem_nil,or_false] at ht
 rcases ht with rfl|rfl<;>rfl
end Go.Ab
namespace Go.Ab
set_option linter.all false
theorem node_inf{k i:Int}{th T:Ty}{xs:List Tm}{g:List Ty}(k1:k≠1)(k2:k≠2)(h:(Tm.mk k i th xs).inf g=(T,0)):
 (∀x∈xs,x.inf g=((x.inf g).1,0))∧rule k th (xs.map fun x=>(x.inf g).1)=(T,0):=by
 obtain⟨h1,h2⟩:=inf_node (t:=Tm.mk k i th xs) k1 k2 h
 exact⟨fun x hx=>by rw[←h1 x hx],h2⟩
theorem rec_inf{i:Int}{th T:Ty}{x f n:Tm}{g:List Ty}(h:(Tm.mk 6 i th [x,f,n]).inf g=(T,0)):
 T=th∧x.inf g=(th,0)∧f.inf g=(funT natT (funT th th),0)∧n.inf g=(natT,0):=by
 obtain⟨h1,h2⟩:=node_inf (by decide) (by decide) h
 have hx:=h1 x (by simp)
 have hf:=h1 f (by simp)
 have hn:=h1 n (by simp)
 simp only[rule,List.map_cons,List.map_nil,at0_cons0,at0_cons1,at0_cons2,reduceIte,Int.reduceEq] at h2
 grind
theorem fold_inf{i:Int}{th T:Ty}{x f n:Tm}{g:List Ty}(h:(Tm.mk 9 i th [x,f,n]).inf g=(T,0)):
 T=th∧x.inf g=(th,0)∧f.inf g=(funT natT (funT listT (funT th th)),0)∧n.inf g=(listT,0):=by
 obtain⟨h1,h2⟩:=node_inf (by decide) (by decide) h
 have hx:=h1 x (by simp)
 have hf:=h1 f (by simp)
 have hn:=h1 n (by simp)
 simp only[rule,List.map_cons,List.map_nil,at0_cons0,at0_cons1,at0_cons2,reduceIte,Int.reduceEq] at h2
 grind
theorem succ_inf{i:Int}{th T:Ty}{x:Tm}{g:List Ty}(h:(Tm.mk 5 i th [x]).inf g=(T,0)):T=natT∧x.inf g=(natT,0):=by
 obtain⟨h1,h2⟩:=node_inf (by decide) (by decide) h
 have hx:=h1 x (by simp)
 simp only[rule,List.map_cons,List.map_nil,at0_cons0,reduceIte,Int.reduceEq] at h2
 grind
theorem cons_inf{i:Int}{th T:Ty}{x y:Tm}{g:List Ty}(h:(Tm.mk 8 i th [x,y]).inf g=(T,0)):T=listT∧x.inf g=(natT,0)∧y.inf g=(listT,0):=by
 obtain⟨h1,h2⟩:=node_inf (by decide) (by decide) h
 have hx:=h1 x (by simp)
 have hy:=h1 y (by simp)
 simp only[rule,List.map_cons,List.map_nil,at0_cons0,at0_cons1,reduceIte,Int.reduceEq] at h2
 grind
theorem apt_inf{f x:Tm}{a b:Ty}{g:List Ty}(hf:f.inf g=(funT a b,0))(hx:x.inf g=(a,0)):(apT f x).inf g=(b,0):=inf_app hf hx
theorem mkrec_inf{th:Ty}{x f n:Tm}{g:List Ty}(hx:x.inf g=(th,0))(hf:f.inf g=(funT natT (funT th th),0))(hn:n.inf g=(natT,0))(i:Int):(Tm.mk 6 i th [x,f,n]).inf g=(th,0):=by
 rw[Tm.inf_eq]
 simp[Tm.infs,hx,hf,hn,rule]
theorem mkfold_inf{th:Ty}{x f n:Tm}{g:List Ty}(hx:x.inf g=(th,0))(hf:f.inf g=(funT natT (funT listT (funT th th)),0))(hn:n.inf g=(listT,0))(i:Int):(Tm.mk 9 i th [x,f,n]).inf g=(th,0):=by
 rw[Tm.inf_eq]
 simp[Tm.infs,hx,hf,hn,rule]
theorem rv_inf{t u:Tm}(hv:RV t u){g:List Ty}{T:Ty}(hs:t.shape=true)(h:t.inf g=(T,0)):u.inf g=(T,0):=by
 cases hv with
 |beta i th j s b a=>
  have hb:b.shape=true:=shape_args (shape_args hs (.mk 2 j s [b]) (by simp)) b (by simp)
  have ha:a.shape=true:=shape_args hs a (by simp)
  obtain⟨h1,h2⟩:=inf_node (by simp) (by simp) h
  have hf:(Tm.mk 2 j s [b]).inf g=(((Tm.mk 2 j s [b]).inf g).1,0):=by rw[←h1 (.mk 2 j s [b]) (by simp)]
  obtain⟨h3,h4⟩:=inf_lam_inv hf
  have ha0:=h1 a (by simp)
  simp only[Tm.kind_mk,Tm.ty_mk,Tm.args_mk,List.map_cons,List.map_nil,h4] at h2
  have h5:s=(a.inf g).1∧(b.inf (g++[s])).1=T:=by
   simp only[rule,at0,List.getD_cons_zero,List.getD_cons_succ,funT_kind,funT_args] at h2
   grind
  have hσ:a.inf g=(s,0):=by grind
  have hp:=put_inf b a g [] s 0 0 hb ha rfl hσ
  grind
 |rz i th x f j s=>obtain⟨rfl,h1,_⟩:=rec_inf h;exact h1
 |fz i th x f j s=>obtain⟨rfl,h1,_⟩:=fold_inf h;exact h1
 |rs i th x f j s n=>
  obtain⟨rfl,h1,h2,h3⟩:=rec_inf h
  obtain⟨_,h4⟩:=succ_inf h3
  exact apt_inf (apt_inf h2 h4) (mkrec_inf h1 h2 h4 0)
 |fs i th x f j s n l=>
  obtain⟨rfl,h1,h2,h3⟩:=fold_inf h
  obtain⟨_,h4,h5⟩:=cons_inf h3
  exact apt_inf (apt_inf (apt_inf h2 h4) h5) (mkfold_inf h1 h2 h5 0)
 |p1 i th j s _ y=>
  obtain⟨h1,h2⟩:=inf_node (by simp) (by simp) h
  have hf:(Tm.mk 10 j s [u,y]).inf g=(((Tm.mk 10 j s [u,y]).inf g).1,0):=by rw[←h1 (.mk 10 j s [u,y]) (by simp)]
  obtain⟨h3,h4,h5⟩:=pair_inf hf
  simp only[Tm.kind_mk,Tm.ty_mk,Tm.args_mk,List.map_cons,List.map_nil,h5] at h2
  simp[rule,at0] at h2
  grind
 |p2 i th j s y _=>
  obtain⟨h1,h2⟩:=inf_node (by simp) (by simp) h
  have hf:(Tm.mk 10 j s [y,u]).inf g=(((Tm.mk 10 j s [y,u]).inf g).1,0):=by rw[←h1 (.mk 10 j s [y,u]) (by simp)]
  obtain⟨h3,h4,h5⟩:=pair_inf hf
  simp only[Tm.kind_mk,Tm.ty_mk,Tm.args_mk,List.map_cons,List.map_nil,h5] at h2
  simp[rule,at0] at h2
  grind
theorem nx_inf(room:Int)(t:Tm):∀(g:List Ty) (T:Ty) (u:Tm),t.shape=true→t.inf g=(T,0)→nxR room t=some (u,true)→u.inf g=(T,0):=by
 induction t using Tm.ind with
 |h t ih=>
  intro g T u hs h hn
  rw[nxR_eq] at hn
  by_cases hr:rootT t=true
  ·rw [if_pos hr] at hn
   split at hn
   ·cases hn
   ·cases hn
    exact rv_inf (root_rv hs hr) hs h
  ·rw [if_neg hr,Option.map_eq_some_iff] at hn
   obtain⟨q,h1,h2⟩:=hn
   obtain⟨m,hm,v,h3,h4⟩:=nxRs_some _ _ _ h1
   have e2:=congrArg Prod.snd h2
   have e1:=congrArg Prod.fst h2
   simp only at e1 e2
   rw[e2] at h3
   rw[←e1,h4]
   have hargs:=shape_args hs
   have hx:=hargs _ (List.getElem_mem hm)
   have hmem:=List.getElem_mem hm
   by_cases k1:t.kind=1
   ·exact absurd (var_args hs k1) (fun hh=>by grind)
   ·have key:∀g' T',(t.args[m]).inf g'=(T',0)→v.inf g'=(T',0):=fun g' T' hi=>ih _ hmem g' T' v hx hi h3
    by_cases k2:t.kind=2
    ·obtain ⟨i,th,b,rfl,hb⟩:=mkArgs1 hs k2 rfl
     obtain⟨h5,h6⟩:=inf_lam_inv h
     have hm0:m=0:=by simp at hm;omega
     subst hm0
     simp only[Tm.args_mk,List.getElem_cons_zero] at*
     have q1:=key (g++[th]) (b.inf (g++[th])).1 (by grind)
     have:v.inf (g++[th])=b.inf (g++[th]):=by grind
     rw[←h]
     simp only[List.set_cons_zero,Tm.kind_mk,Tm.ty_mk,Tm.index_mk]
     exact lam_congr this
    ·obtain ⟨h5,h6⟩:=inf_node k1 k2 h
     have h7:=h5 _ hmem
     have q1:=key g (t.args[m].inf g).1 (by grind)
     have hi:v.inf g=(t.args[m]).inf g:=by grind
     rw[←h,Tm.inf_eq g (Tm.mk t.kind t.index t.ty (t.args.set m v)),if_neg (show ¬(Tm.mk t.kind t.index t.ty (t.args.set m v)).kind=1 from k1),if_neg (show ¬(Tm.mk t.kind t.index t.ty (t.args.set m v)).kind=2 from k2),t.inf_eq,if_neg k1,if_neg k2]
     show(if(Tm.infs g (t.args.set m v)).2≠0 then(noTy,(Tm.infs g (t.args.set m v)).2) else rule t.kind t.ty (Tm.infs g (t.args.set m v)).1)=_
     rw[infs_set g v t.args m hm hi]
theorem nrm_inf:∀(k:Nat) (t:Tm) (n:Nat) (g:List Ty) (T:Ty),t.err=0→t.inf g=(T,0)→(nrm k t n).2.2=0→(nrm k t n).1.inf g=(T,0)
 |0,t,n,g,T,he,hi,h=>by
  simp only[nrm] at h ⊢
  grind
 |k+1,t,n,g,T,he,hi,h=>by
  simp only[nrm] at h ⊢
  cases hx:nxR (4096-t.size) t with
  |none=>exact hi
  |some p=>
   obtain⟨x,f⟩:=p
   rw[hx] at h
   cases f with
   |false=>cases h
   |true=>exact nrm_inf k x (n+1) g T (nx_err he hx) (nx_inf _ t g T x (err_zero he).1 hi hx) h
theorem normR_ok{t:Tm}{steps:Int}(h:(normR t steps).2.2=0):t.err=0∧(normR t steps).1.err=0∧Pst t (normR t steps).1∧nf (normR t steps).1∧∀g T,t.inf g=(T,0)→(normR t steps).1.inf g=(T,0):=by
 unfold normR at h ⊢
 by_cases h1:t.err≠0
 ·grind
 ·rw [if_neg h1] at h ⊢
  have h1':t.err=0:=Decidable.not_not.1 h1
  by_cases h2:¬(0≤steps∧steps≤65536)∨t.near=false
  ·grind
  ·rw [if_neg h2] at h ⊢
   obtain⟨a,b,c⟩:=nrm_ok _ t 0 h1' h
   exact⟨h1',c,a,b,fun g T hi=>nrm_inf _ t 0 g T h1' hi h⟩
end Go.Ab
namespace Go.Ab
open Go
set_option linter.all false
structure Ck where
 lems:List Fm
 tys:List Ty
 hyps:List Fm
def Ck.view(c:Ck):List V:=[.s .fm c.lems,.s .ty c.tys,.s .fm c.hyps]
def Ck.below(c:Ck)(l:List Ty):Ck:=⟨c.lems,c.tys++l,c.hyps.map fun f=>f.lft 0 l.length⟩
def Ck.with_(c:Ck)(f:Fm):Ck:=⟨c.lems,c.tys,c.hyps++[f]⟩
def Ck.room(c:Ck)(v h:Nat):Int:=if c.tys.length+v>16∨c.hyps.length+h>16 then 3 else 0
def unionI(a b:List Int):List Int:=sortI (nub (nub [] a) b)
def outI(l:List Int)(n:Int):List Int:=(l.filter fun x=>decide (x≥n)).map (·-n)
def hasI:List Int→Bool
 |[]=>false
 |x::_=>x==0
def freeT(t:Tm):List Int:=if t.err=0 then usesI t else []
def putK(f:Fm)(t:Tm):Fm×Int:=(if putFErr f 0 t=0 then f.put 0 t else noFm,putFErr f 0 t)
def kTyp(c:Ck)(t:Tm)(k:Int):Int:=if(typeOf c.tys t).2≠0 then(typeOf c.tys t).2 else if(typeOf c.tys t).1.kind≠k then 7 else 0
def nrmTs:List Tm→List Tm×Int
 |[]=>([],0)
 |t::l=>if(normR t 1000).2.2≠0 then([],(normR t 1000).2.2) else if(nrmTs l).2≠0 then([],(nrmTs l).2) else((normR t 1000).1::(nrmTs l).1,0)
mutual
def normF:Fm→Fm×Int
 | .mk k h ts zs=>if(nrmTs ts).2≠0 then(noFm,(nrmTs ts).2) else if(normFs zs).2≠0 then(noFm,(normFs zs).2) else(.mk k h (nrmTs ts).1 (normFs zs).1,0)
def normFs:List Fm→List Fm×Int
 |[]=>([],0)
 |f::l=>if(normF f).2≠0 then([],(normF f).2) else if(normFs l).2≠0 then([],(normFs l).2) else((normF f).1::(normFs l).1,0)
end
mutual
def contF:Fm→Bool
 | .mk k _ _ zs=>if k=1 then false else if k=2 then(contFs zs).getD 0 false||(contFs zs).getD 1 false else if k=5 then true else(contFs zs).getLastD false
def contFs:List Fm→List Bool
 |[]=>[]
 |f::l=>contF f::contFs l
end
abbrev Res:=Fm×List Int×Int
abbrev Rs:=Ck→Res
def noRes(e:Int):Res:=(noFm,[],e)
def partR(r:Rs)(c:Ck)(f:Fm)(t:Tm):List Int×Int:=
 if(r c).2.2≠0 then([],(r c).2.2) else if(putK f t).2≠0 then([],(putK f t).2) else((r c).2.1,mtchF (putK f t).1 (r c).1)
def finR(r:Res):Res:=if r.2.2≠0 then noRes r.2.2 else if r.1.err≠0 then noRes 4 else(r.1,if contF r.1=true then r.2.1 else [],0)
def hypR(c:Ck)(i:Int):Res:=if i≥c.hyps.length then noRes 8 else(c.hyps.getD (c.hyps.length-1-i.toNat) noFm,[],0)
def lemR(c:Ck)(i:Int):Res:=if i≥c.lems.length then noRes 9 else(c.lems.getD i.toNat noFm,[],0)
def andR(r0 r1:Rs)(c:Ck):Res:=if(r0 c).2.2≠0 then noRes (r0 c).2.2 else(twoF 2 (r0 c).1 (r1 c).1,unionI (r0 c).2.1 (r1 c).2.1,(r1 c).2.2)
def prjR(j:Nat)(r0:Rs)(c:Ck):Res:=if(r0 c).2.2≠0 then noRes (r0 c).2.2 else if(r0 c).1.kind≠2 then noRes 10 else((r0 c).1.args.getD j noFm,(r0 c).2.1,0)
def impiR(f:Fm)(r0:Rs)(c:Ck):Res:=
 if typedFC c.tys f≠0 then noRes (typedFC c.tys f) else if c.room 0 1≠0 then noRes 3 else(twoF 3 f (r0 (c.with_ f)).1,(r0 (c.with_ f)).2.1,(r0 (c.with_ f)).2.2)
def impeR(r0 r1:Rs)(c:Ck):Res:=
 if(r0 c).2.2≠0 then noRes (r0 c).2.2 else if(r0 c).1.kind≠3 then noRes 10 else if(r1 c).2.2≠0 then noRes (r1 c).2.2
 else((r0 c).1.args.getD 1 noFm,unionI (r0 c).2.1 (r1 c).2.1,mtchF ((r0 c).1.args.getD 0 noFm) (r1 c).1)
def allR(k:Int)(s:Ty)(r0:Rs)(c:Ck):Res:=
 if c.room 1 0≠0 then noRes 3 else if(r0 (c.below [s])).2.2≠0 then noRes (r0 (c.below [s])).2.2
 else if k=8 then(quF 4 s (r0 (c.below [s])).1,outI (r0 (c.below [s])).2.1 1,0)
 else if hasI (r0 (c.below [s])).2.1=true then noRes 12 else(quF 6 s (r0 (c.below [s])).1,outI (r0 (c.below [s])).2.1 1,0)
def kI(k u a b:Int):Int:=if k=u then a else b
def kL(k u:Int)(a b:List Int):List Int:=if k=u then a else b
theorem getD_at{α:Type}{l:List α}{i:Nat}(h:i<l.length)(d:α):l.getD i d=l[i]:=by grind
def atR(k:Int)(t:Tm)(r0:Rs)(c:Ck):Res:=
 if(typeOf c.tys t).2≠0 then noRes (typeOf c.tys t).2 else if(r0 c).2.2≠0 then noRes (r0 c).2.2
 else if(r0 c).1.kind≠kI k 13 6 4 then noRes 10 else if(r0 c).1.ty≠(typeOf c.tys t).1 then noRes 7
 else((putK ((r0 c).1.args.getD 0 noFm) t).1,kL k 13 (r0 c).2.1 (unionI (r0 c).2.1 (freeT t)),(putK ((r0 c).1.args.getD 0 noFm) t).2)
def exR(k:Int)(f:Fm)(t:Tm)(r0:Rs)(c:Ck):Res:=
 if typedFC c.tys f≠0 then noRes (typedFC c.tys f) else if f.kind≠kI k 14 7 5 then noRes 10
 else if(typeOf c.tys t).2≠0 then noRes (typeOf c.tys t).2 else if f.ty≠(typeOf c.tys t).1 then noRes 7
 else(f,kL k 14 (partR r0 c (f.args.getD 0 noFm) t).1 (unionI (partR r0 c (f.args.getD 0 noFm) t).1 (freeT t)),(partR r0 c (f.args.getD 0 noFm) t).2)
def freeR(f:Fm):Fm×Int:=
 if timesF 0 f=0 then(f,0) else if(normF f).2≠0 then(noFm,(normF f).2) else if timesF 0 (normF f).1≠0 then(noFm,6) else((normF f).1,0)
def openB(r1:Rs)(c:Ck)(a:Fm):Res:=r1 ((c.below [a.ty]).with_ (a.args.getD 0 noFm))
def opnR(k:Int)(r0 r1:Rs)(c:Ck):Res:=
 if(r0 c).2.2≠0 then noRes (r0 c).2.2 else if(r0 c).1.kind≠kI k 15 7 5 then noRes 10 else if c.room 1 1≠0 then noRes 3
 else if(openB r1 c (r0 c).1).2.2≠0 then noRes (openB r1 c (r0 c).1).2.2
 else if(freeR (openB r1 c (r0 c).1).1).2≠0 then noRes (freeR (openB r1 c (r0 c).1).1).2
 else if k=15∧hasI (openB r1 c (r0 c).1).2.1=true then noRes 12
 else((freeR (openB r1 c (r0 c).1).1).1.lft 1 (-1),unionI (r0 c).2.1 (outI (openB r1 c (r0 c).1).2.1 1),0)
def indR(f:Fm)(t:Tm)(r0 r1:Rs)(c:Ck):Res:=
 if typedF (c.tys++[natT]) f≠0 then noRes (typedF (c.tys++[natT]) f) else if kTyp c t 1≠0 then noRes (kTyp c t 1)
 else if(partR r0 c f zT).2≠0 then noRes (partR r0 c f zT).2 else if c.room 1 1≠0 then noRes 3
 else if(partR r1 ((c.below [natT]).with_ f) (f.lft 1 1) (sT (vT 0))).2≠0 then noRes (partR r1 ((c.below [natT]).with_ f) (f.lft 1 1) (sT (vT 0))).2
 else((putK f t).1,unionI (unionI (freeT t) (partR r0 c f zT).1) (outI (partR r1 ((c.below [natT]).with_ f) (f.lft 1 1) (sT (vT 0))).1 1),(putK f t).2)
def nilM:Tm:= .mk 7 0 (.mk 0 []) []
def consM:Tm:= .mk 8 0 (.mk 0 []) [vT 1,vT 0]
def listR(f:Fm)(t:Tm)(r0 r1:Rs)(c:Ck):Res:=
 if typedF (c.tys++[listT]) f≠0 then noRes (typedF (c.tys++[listT]) f) else if kTyp c t 2≠0 then noRes (kTyp c t 2)
 else if(partR r0 c f nilM).2≠0 then noRes (partR r0 c f nilM).2 else if c.room 2 1≠0 then noRes 3
 else if(partR r1 ((c.below [natT,listT]).with_ (f.lft 1 1)) (f.lft 1 2) consM).2≠0 then noRes (partR r1 ((c.below [natT,listT]).with_ (f.lft 1 1)) (f.lft 1 2) consM).2
 else((putK f t).1,unionI (unionI (freeT t) (partR r0 c f nilM).1) (outI (partR r1 ((c.below [natT,listT]).with_ (f.lft 1 1)) (f.lft 1 2) consM).1 2),(putK f t).2)
def reflR(t:Tm)(c:Ck):Res:=(eqF t t,[],kTyp c t 1)
def substR(f:Fm)(r0 r1:Rs)(c:Ck):Res:=
 if typedF (c.tys++[natT]) f≠0 then noRes (typedF (c.tys++[natT]) f) else if(r0 c).2.2≠0 then noRes (r0 c).2.2 else if(r0 c).1.kind≠1 then noRes 10
 else if(partR r1 c f ((r0 c).1.terms.getD 0 noTm)).2≠0 then noRes (partR r1 c f ((r0 c).1.terms.getD 0 noTm)).2
 else((putK f ((r0 c).1.terms.getD 1 noTm)).1,(partR r1 c f ((r0 c).1.terms.getD 0 noTm)).1,(putK f ((r0 c).1.terms.getD 1 noTm)).2)
def appV:Tm:=apT (vT 1) (vT 0)
def chB(a:Fm):Fm×Int:=putK (((a.args.getD 0 noFm).args.getD 0 noFm).lft 2 1) appV
def chF(a:Fm):Ty:=funT a.ty (a.args.getD 0 noFm).ty
def choiceR(r0:Rs)(c:Ck):Res:=
 if(r0 c).2.2≠0 then noRes (r0 c).2.2 else if(r0 c).1.kind≠4∨((r0 c).1.args.getD 0 noFm).kind≠5 then noRes 10 else if(chF (r0 c).1).err≠0 then noRes 4
 else(quF 5 (chF (r0 c).1) (quF 4 (r0 c).1.ty (chB (r0 c).1).1),(r0 c).2.1,(chB (r0 c).1).2)
def ruleR(k i:Int)(s:Ty)(ts:List Tm)(fs:List Fm)(rs:List Rs)(c:Ck):Res:=
 if k=1 then hypR c i else if k=2 then lemR c i else if k=3 then andR (rs.getD 0 fun _=>noRes 0) (rs.getD 1 fun _=>noRes 0) c
 else if k=4∨k=5 then prjR (k-4).toNat (rs.getD 0 fun _=>noRes 0) c
 else if k=6 then impiR (fs.getD 0 noFm) (rs.getD 0 fun _=>noRes 0) c
 else if k=7 then impeR (rs.getD 0 fun _=>noRes 0) (rs.getD 1 fun _=>noRes 0) c
 else if k=8∨k=12 then allR k s (rs.getD 0 fun _=>noRes 0) c
 else if k=9∨k=13 then atR k (ts.getD 0 noTm) (rs.getD 0 fun _=>noRes 0) c
 else if k=10∨k=14 then exR k (fs.getD 0 noFm) (ts.getD 0 noTm) (rs.getD 0 fun _=>noRes 0) c
 else if k=11∨k=15 then opnR k (rs.getD 0 fun _=>noRes 0) (rs.getD 1 fun _=>noRes 0) c
 else if k=16 then indR (fs.getD 0 noFm) (ts.getD 0 noTm) (rs.getD 0 fun _=>noRes 0) (rs.getD 1 fun _=>noRes 0) c
 else if k=17 then listR (fs.getD 0 noFm) (ts.getD 0 noTm) (rs.getD 0 fun _=>noRes 0) (rs.getD 1 fun _=>noRes 0) c
 else if k=18 then reflR (ts.getD 0 noTm) c
 else if k=19 then substR (fs.getD 0 noFm) (rs.getD 0 fun _=>noRes 0) (rs.getD 1 fun _=>noRes 0) c
 else choiceR (rs.getD 0 fun _=>noRes 0) c
mutual
def infP:Pf→Rs
 | .mk k i s ts fs zs=>fun c=>finR (ruleR k i s ts fs (infPs zs) c)
def infPs:List Pf→List Rs
 |[]=>[]
 |p::l=>infP p::infPs l
end
theorem infPs_eq:∀l:List Pf,infPs l=l.map infP
 |[]=>rfl
 |p::l=>by rw[infPs,infPs_eq l];rfl
theorem infP_eq(p:Pf)(c:Ck):infP p c=finR (ruleR p.kind p.index p.ty p.terms p.forms (p.args.map infP) c):=by cases p;simp only[infP,infPs_eq];rfl
theorem contFs_eq:∀l:List Fm,contFs l=l.map contF
 |[]=>rfl
 |p::l=>by rw[contFs,contFs_eq l];rfl
theorem contF_eq(f:Fm):contF f=if f.kind=1 then false else if f.kind=2 then(f.args.map contF).getD 0 false||(f.args.map contF).getD 1 false else if f.kind=5 then true else(f.args.map contF).getLastD false:=by
 cases f;simp only[contF,contFs_eq];rfl
theorem normF_eq(f:Fm):normF f=if(nrmTs f.terms).2≠0 then(noFm,(nrmTs f.terms).2) else if(normFs f.args).2≠0 then(noFm,(normFs f.args).2) else(.mk f.kind f.ty (nrmTs f.terms).1 (normFs f.args).1,0):=by
 cases f;rfl
theorem room_ok{c:Ck}{v h:Nat}(hr:c.room v h=0):c.tys.length+v≤16∧c.hyps.length+h≤16:=by
 unfold Ck.room at hr
 omega
theorem room_no{c:Ck}{v h:Nat}(hr:c.room v h≠0):c.room v h=3:=by unfold Ck.room at*;omega
theorem firstErr_of:∀{g:List Ty},(∀x∈g,x.err=0)→firstErr g=0
 |[],_=>rfl
 |x::l,h=>by
  simp only[firstErr]
  rw[if_neg (by grind)]
  exact firstErr_of fun y hy=>h y (by grind)
theorem ctxErr_of{g:List Ty}(hl:g.length≤16)(h:∀x∈g,x.err=0):ctxErr g=0:=by
 unfold ctxErr
 rw[if_neg (by omega)]
 exact firstErr_of h
theorem firstI_zero{α:Type}{f:α→Int}:∀{l:List α},firstI f l=0→∀x∈l,f x=0
 |[],_,x,h=>by cases h
 |y::l,h,x,hx=>by
  simp only[firstI] at h
  by_cases h1:f y≠0
  ·omega
  ·rw [if_neg h1] at h
   rcases List.mem_cons.1 hx with rfl|hx
   ·omega
   ·exact firstI_zero h x hx
theorem nat_of{t:Ty}(he:t.err=0)(hk:t.kind=1):t=natT:=by
 have h:=((Ty.err_iff t).1 he).1
 obtain⟨k,zs⟩:=t
 rw[Ty.shape_eq,Bool.and_eq_true] at h
 have h1:=h.1
 simp only[Ty.kind,Ty.args] at hk h1
 subst hk
 have h2:zs.length=0:=by simpa [arT] using h1
 rw[List.eq_nil_of_length_eq_zero h2];rfl
theorem list_of{t:Ty}(he:t.err=0)(hk:t.kind=2):t=listT:=by
 have h:=((Ty.err_iff t).1 he).1
 obtain⟨k,zs⟩:=t
 rw[Ty.shape_eq,Bool.and_eq_true] at h
 have h1:=h.1
 simp only[Ty.kind,Ty.args] at hk h1
 subst hk
 have h2:zs.length=0:=by simpa [arT] using h1
 rw[List.eq_nil_of_length_eq_zero h2];rfl
theorem typed_inv{g:List Ty}{t:Tm}(hg:∀x∈g,x.err=0)(h:(typed g t).2=0):t.err=0∧t.inf g=((typed g t).1,0)∧(typed g t).1.err=0:=by
 unfold typed at h ⊢
 by_cases h1:t.err≠0
 ·grind
 ·rw [if_neg h1] at h ⊢
  have h1':=Decidable.not_not.1 h1
  exact⟨h1',by grind,Tm.inf_good t g ((Tm.err_iff t).1 h1').1 hg h⟩
theorem typeOf_inv{g:List Ty}{t:Tm}(h:(typeOf g t).2=0):ctxErr g=0∧t.err=0∧t.inf g=((typeOf g t).1,0)∧(typeOf g t).1.err=0:=by
 unfold typeOf at h ⊢
 by_cases h1:ctxErr g≠0
 ·grind
 ·rw [if_neg h1] at h ⊢
  have h1':=Decidable.not_not.1 h1
  exact⟨h1',typed_inv (ctxErr_all h1').2 h⟩
theorem tyE_okT(f:Fm):∀g:List Ty,(∀x∈g,x.err=0)→f.shape=true→f.tyE g=0→f.okT g:=by
 induction f using Fm.ind with
 |h f ih=>
  intro g hg hs h
  rw[Fm.tyE_eq] at h
  by_cases h1:firstI (tE g) f.terms≠0
  ·omega
  ·rw [if_neg h1] at h
   rw[Fm.okT_iff]
   refine⟨fun t ht=> ?_,fun x hx=> ?_⟩
   ·have h2:=firstI_zero (Decidable.not_not.1 h1) t ht
    unfold tE at h2
    by_cases h3:(typed g t).2≠0
    ·omega
    ·rw [if_neg h3] at h2
     obtain⟨a,b,c⟩:=typed_inv hg (Decidable.not_not.1 h3)
     by_cases h4:(typed g t).1.kind≠1
     ·omega
     ·rw [b,nat_of c (Decidable.not_not.1 h4)]
   ·have h2:=firstI_zero h x hx
    refine ih x hx _ ?_ (fshape_args hs hx) h2
    by_cases hq:quantK f.kind=true
    ·rw [ctxF_q hq]
     intro y hy
     rcases List.mem_append.1 hy with hy|hy
     ·grind
     ·simp only[List.mem_singleton] at hy
      subst hy
      have hk:=quantK_iff.1 hq
      rcases fshape_kinds hs with⟨h5,_⟩|⟨h5,_⟩|⟨_,_,h6⟩
      all_goals omega
    ·rw [ctxF_n hq];exact hg
theorem typedF_inv{g:List Ty}{f:Fm}(hg:∀x∈g,x.err=0)(h:typedF g f=0):f.err=0∧f.okT g:=by
 unfold typedF at h
 by_cases h1:f.err≠0
 ·omega
 ·rw [if_neg h1] at h
  have h1':=Decidable.not_not.1 h1
  exact⟨h1',tyE_okT f g hg ((Fm.err_iff f).1 h1').1 h⟩
theorem typedFC_inv{g:List Ty}{f:Fm}(h:typedFC g f=0):f.err=0∧f.okT g:=by
 unfold typedFC at h
 by_cases h1:ctxErr g≠0
 ·omega
 ·rw [if_neg h1] at h
  exact typedF_inv (ctxErr_all (Decidable.not_not.1 h1)).2 h
theorem kTyp_inv{c:Ck}{t:Tm}{k:Int}(h:kTyp c t k=0):t.err=0∧t.inf c.tys=((typeOf c.tys t).1,0)∧(typeOf c.tys t).1.err=0∧(typeOf c.tys t).1.kind=k:=by
 unfold kTyp at h
 by_cases h1:(typeOf c.tys t).2≠0
 ·omega
 ·rw [if_neg h1] at h
  obtain⟨_,a,b,d⟩:=typeOf_inv (Decidable.not_not.1 h1)
  grind
theorem inf_free(t:Tm):∀(g:List Ty) (b:Int),t.shape=true→(t.inf g).2=0→∀p∈t.vars b,p.1-p.2<g.length-b:=by
 induction t using Tm.ind with
 |h t ih=>
  intro g b hs h p hp
  have hargs:=shape_args hs
  by_cases k1:t.kind=1
  ·rw [vars_var hs k1] at hp
   simp only[List.mem_singleton] at hp
   subst hp
   rw[Tm.inf_eq,if_pos k1] at h
   grind
  ·rw [vars_node k1] at hp
   obtain⟨x,hx,hp⟩:=List.mem_flatMap.1 hp
   by_cases k2:t.kind=2
   ·have e:up t.kind b=b+1:=by simp[up,k2]
    rw[e] at hp
    rw[Tm.inf_eq,if_neg k1,if_pos k2] at h
    have h0:(Tm.infs (g++[t.ty]) t.args).2=0:=by
     grind
    have:=ih x hx (g++[t.ty]) (b+1) (hargs x hx) (Tm.infs_all _ _ h0 x hx) p hp
    grind
   ·have e:up t.kind b=b:=by simp[up,k2]
    rw[e] at hp
    exact ih x hx g b (hargs x hx) ((inf_node (T:=(t.inf g).1) k1 k2 (by grind)).1 x hx) p hp
def UsesOk(n:Nat)(l:List Int):Prop:=l.Nodup∧∀u∈l,0≤u∧u<n
theorem UsesOk.nil(n:Nat):UsesOk n []:=⟨List.nodup_nil,fun u h=>by cases h⟩
theorem UsesOk.len{n:Nat}{l:List Int}(h:UsesOk n l):l.length≤n:=(nodup_len n l h.1 h.2).1
theorem mem_unionI{a b:List Int}{x:Int}:x∈unionI a b↔x∈a∨x∈b:=by
 rw[unionI,(sortI_perm _).mem_iff,mem_nub,mem_nub];simp
theorem UsesOk.union{n:Nat}{a b:List Int}(ha:∀u∈a,0≤u∧u<(n:Int))(hb:∀u∈b,0≤u∧u<(n:Int)):UsesOk n (unionI a b):=by
 refine⟨?_,fun u hu=> ?_⟩
 ·rw [unionI,(sortI_perm _).nodup_iff];exact nodup_nub (nodup_nub List.nodup_nil)
 ·rcases mem_unionI.1 hu with h|h
  all_goals grind
theorem mem_outI{l:List Int}{n x:Int}:x∈outI l n↔0≤x∧x+n∈l:=by
 simp only[outI,List.mem_map,List.mem_filter,decide_eq_true_eq]
 grind
theorem UsesOk.out{n m:Nat}{l:List Int}(h:UsesOk (n+m) l):UsesOk n (outI l m):=by
 refine⟨?_,fun u hu=> ?_⟩
 ·have h1:(l.filter fun x=>decide (x≥(m:Int))).Nodup:=h.1.filter _
  unfold outI
  grind
 ·obtain ⟨h1,h2⟩:=mem_outI.1 hu
  have:=h.2 _ h2
  omega
theorem freeT_ok{t:Tm}{g:List Ty}{T:Ty}(h:t.inf g=(T,0)):UsesOk g.length (freeT t):=by
 unfold freeT
 by_cases he:t.err=0
 ·rw [if_pos he]
  refine⟨usesI_nodup t,fun u hu=> ?_⟩
  obtain⟨h0,h1⟩:=mem_usesI.1 hu
  refine⟨h0,?_⟩
  obtain⟨p,hp,e⟩:=mem_cnt.2 h1
  have:=inf_free t g 0 ((Tm.err_iff t).1 he).1 (by rw[h]) p hp
  omega
 ·rw [if_neg he];exact .nil _
theorem inf_weak{t:Tm}{g:List Ty}(m:List Ty)(hs:t.shape=true)(h:(t.inf g).2=0):t.inf (m++g)=t.inf g:=by
 have h1:=lift_inf t [] m g g.length 0 hs (by omega)
 rw[List.nil_append,List.nil_append] at h1
 rw[←h1]
 congr 1
 refine(re_id t 0 hs fun p hp=> ?_).symm
 have:=inf_free t g 0 hs h p hp
 rw[liftG_eq,if_neg (by omega)]
theorem fokT_weak(f:Fm):∀(g m:List Ty),f.shape=true→f.okT g→f.okT (m++g):=by
 induction f using Fm.ind with
 |h f ih=>
  intro g m hs hok
  rw[Fm.okT_iff] at hok ⊢
  refine⟨fun t ht=> ?_,fun x hx=> ?_⟩
  ·have:=hok.1 t ht
   rw[inf_weak m (fshape_terms hs ht) (by grind)];omega
  ·have:=ih x hx _ m (fshape_args hs hx) (hok.2 x hx)
   by_cases hq:quantK f.kind=true
   ·rw [ctxF_q hq] at this ⊢;grind
   ·rw [ctxF_n hq] at this ⊢;omega
theorem part_err{f x:Fm}(hf:f.err=0)(hx:x∈f.args):x.err=0:=by
 have h:=(Fm.err_iff f).1 hf
 have h1:=lsum_mem Fm.size hx
 have h2:=f.size_eq
 exact(Fm.err_iff x).2 ⟨fshape_args h.1 hx,by omega⟩
theorem term_err{f:Fm}{t:Tm}(hf:f.err=0)(ht:t∈f.terms):t.err=0:=by
 have h:=(Fm.err_iff f).1 hf
 have h1:=lsum_mem Tm.size ht
 have h2:=f.size_eq
 exact(Tm.err_iff t).2 ⟨fshape_terms h.1 ht,by omega⟩
theorem two_of{f:Fm}(hs:f.shape=true)(hk:f.kind=2∨f.kind=3):∃a b,f=twoF f.kind a b:=by
 rw[Fm.shape_eq,Bool.and_eq_true,Bool.and_eq_true] at hs
 have h1:=hs.1.1
 unfold Fm.head at h1
 rw[if_neg (by omega),if_pos hk] at h1
 simp only[Bool.and_eq_true,beq_iff_eq] at h1
 clear hs
 obtain⟨k,h,ts,zs⟩:=f
 simp only[Fm.kind_mk,Fm.terms_mk,Fm.args_mk] at h1 hk
 have e1:ts=[]:=List.eq_nil_of_length_eq_zero h1.1.2
 match zs,h1 with
 |[a,b],h1=>
  refine⟨a,b,?_⟩
  have e2:h= .mk 0 []:=Ty.no_of (by simp_all)
  rw[e1,e2];rfl
 |[],h1=>grind
 |[a],h1=>grind
 |a::b::c::l,h1=>grind
theorem qu_of{f:Fm}(hs:f.shape=true)(hk:4≤f.kind∧f.kind≤7):∃a,f=quF f.kind f.ty a:=by
 rw[Fm.shape_eq,Bool.and_eq_true,Bool.and_eq_true] at hs
 have h1:=hs.1.1
 unfold Fm.head at h1
 rw[if_neg (by omega),if_neg (by omega),if_pos (by omega)] at h1
 simp only[Bool.and_eq_true,beq_iff_eq] at h1
 clear hs
 obtain⟨k,h,ts,zs⟩:=f
 simp only[Fm.kind_mk,Fm.terms_mk,Fm.args_mk] at h1 hk
 have e1:ts=[]:=List.eq_nil_of_length_eq_zero h1.1.2
 match zs,h1 with
 |[a],h1=>exact⟨a,by rw[e1];rfl⟩
 |[],h1=>grind
 |a::b::l,h1=>grind
theorem eq_of{f:Fm}(hs:f.shape=true)(hk:f.kind=1):∃a b,f=eqF a b:=by
 rw[Fm.shape_eq,Bool.and_eq_true,Bool.and_eq_true] at hs
 have h1:=hs.1.1
 unfold Fm.head at h1
 rw[if_pos hk] at h1
 simp only[Bool.and_eq_true,beq_iff_eq] at h1
 clear hs
 obtain⟨k,h,ts,zs⟩:=f
 simp only[Fm.kind_mk,Fm.terms_mk,Fm.args_mk] at h1 hk
 have e1:zs=[]:=List.eq_nil_of_length_eq_zero h1.2
 match ts,h1 with
 |[a,b],h1=>
  have e2:h= .mk 0 []:=Ty.no_of (by simp_all)
  exact⟨a,b,by rw[e1,e2,hk];rfl⟩
 |[],h1=>grind
 |[a],h1=>grind
 |a::b::c::l,h1=>grind
theorem qu_err{f:Fm}(hf:f.shape=true)(hk:4≤f.kind∧f.kind≤7):f.ty.err=0:=by
 rcases fshape_kinds hf with⟨h,_⟩|⟨h,_⟩|⟨_,_,h⟩
 all_goals omega
theorem two_okT{k:Int}{a b:Fm}{g:List Ty}(hk:k=2∨k=3)(h:(twoF k a b).okT g):a.okT g∧b.okT g:=by
 rw[Fm.okT_iff] at h
 have e:ctxF g (twoF k a b)=g:=ctxF_n (by show ¬quantK k=true;rw[quantK_iff];omega)
 rw[e] at h
 exact⟨h.2 a (by simp[twoF]),h.2 b (by simp[twoF])⟩
theorem qu_okT{k:Int}{s:Ty}{a:Fm}{g:List Ty}(hk:4≤k∧k≤7)(h:(quF k s a).okT g):a.okT (g++[s]):=by
 rw[Fm.okT_iff] at h
 have e:ctxF g (quF k s a)=g++[s]:=ctxF_q (quantK_iff.2 hk)
 rw[e] at h
 exact h.2 a (by simp[quF])
theorem eq_okT{a b:Tm}{g:List Ty}:(eqF a b).okT g↔a.inf g=(natT,0)∧b.inf g=(natT,0):=by
 rw[Fm.okT_iff]
 simp[eqF]
theorem two_shape_iff{k:Int}{a b:Fm}(hk:k=2∨k=3)(ha:a.shape=true)(hb:b.shape=true):(twoF k a b).shape=true:=by
 rw[Fm.shape_eq]
 rcases hk with rfl|rfl<;>simp[twoF,Fm.head,ha,hb,Ty.isNo,Ty.kind,Ty.args]
theorem qu_shape_iff{k:Int}{s:Ty}{a:Fm}(hk:4≤k∧k≤7)(hs:s.err=0)(ha:a.shape=true):(quF k s a).shape=true:=by
 rw[Fm.shape_eq]
 have h1:=(Ty.err_iff s).1 hs
 have h2:s.ok=true:=ok_of h1.1 h1.2
 have:k=4∨k=5∨k=6∨k=7:=by omega
 rcases this with rfl|rfl|rfl|rfl<;>simp[quF,Fm.head,ha,h2]
theorem twoF_size(k:Int)(a b:Fm):(twoF k a b).size=1+a.size+b.size:=by rw[Fm.size_eq];simp[twoF];omega
theorem quF_size(k:Int)(s:Ty)(a:Fm):(quF k s a).size=1+a.size:=by rfl
theorem lft_okTs{f:Fm}{g h:List Ty}(m:List Ty)(hf:f.shape=true)(hok:f.okT (g++h)):(f.lft h.length m.length).okT (g++m++h):=by
 have:=fokT_lft g m h.length f h 0 (by omega) hf hok
 exact this
theorem putK_ok{f:Fm}{t:Tm}{g:List Ty}{σ:Ty}(hf:f.okT (g++[σ]))(ht:t.inf g=(σ,0))(h:(putK f t).2=0):(putK f t).1.err=0∧(putK f t).1.okT g:=by
 have h':putFErr f 0 t=0:=h
 have e:(putK f t).1=f.put 0 t:=if_pos h'
 obtain⟨h1,h2,_⟩:=putFErr_zero h'
 rw[e]
 refine⟨putF_err (by omega) h',?_⟩
 have h3:=fokT_put 0 t g σ ((Tm.err_iff t).1 h2).1 ht f [] 0 rfl ((Fm.err_iff f).1 h1).1 (by grind)
 rw[List.append_nil] at h3
 exact h3
structure Ck.ok (c:Ck):Prop where
 ctx:ctxErr c.tys=0
 nh:c.hyps.length≤16
 nl:c.lems.length≤32
 hyps:∀f∈c.hyps,f.err=0∧f.okT c.tys
 lems:∀f∈c.lems,f.err=0∧f.okT []
theorem Ck.ok.len{c:Ck}(h:c.ok):c.tys.length≤16:=(ctxErr_all h.ctx).1
theorem Ck.ok.all{c:Ck}(h:c.ok):∀x∈c.tys,x.err=0:=(ctxErr_all h.ctx).2
theorem Ck.ok.below{c:Ck}(h:c.ok){l:List Ty}(hl:c.tys.length+l.length≤16)(he:∀x∈l,x.err=0):(c.below l).ok:=by
 refine⟨ctxErr_of (by simp[Ck.below];omega) fun x hx=> ?_,by simp[Ck.below];exact h.nh,h.nl,fun f hf=> ?_,h.lems⟩
 ·rcases List.mem_append.1 hx with hx|hx
  ·exact h.all x hx
  grind
 ·obtain ⟨y,hy,rfl⟩:=List.mem_map.1 hf
  obtain⟨h1,h2⟩:=h.hyps y hy
  refine⟨lft_err h1 (by omega),?_⟩
  have h3:=lft_okTs (g:=c.tys) (h:=[]) l ((Fm.err_iff y).1 h1).1 (by grind)
  simpa [Ck.below] using h3
theorem Ck.ok.with_{c:Ck}(h:c.ok){f:Fm}(hl:c.hyps.length+1≤16)(hf:f.err=0)(hok:f.okT c.tys):(c.with_ f).ok:=by
 refine⟨h.ctx,by simp[Ck.with_];omega,h.nl,fun y hy=> ?_,h.lems⟩
 rcases List.mem_append.1 hy with hy|hy
 ·exact h.hyps y hy
 ·simp only[List.mem_singleton] at hy
  subst hy;exact⟨hf,hok⟩
def RuleOk(c:Ck)(r:Res):Prop:=r.2.2=0→r.1.shape=true∧r.1.size≤20000000∧r.1.okT c.tys∧UsesOk c.tys.length r.2.1
def ResOk(c:Ck)(r:Res):Prop:=(r.2.2=0→r.1.err=0∧r.1.okT c.tys∧UsesOk c.tys.length r.2.1)∧(r.2.2≠0→r=noRes r.2.2)
theorem noRes_ok(c:Ck){e:Int}(he:e≠0):RuleOk c (noRes e):=fun h=>absurd h he
theorem finR_ok{c:Ck}{r:Res}(h:RuleOk c r):ResOk c (finR r):=by
 unfold finR
 by_cases h1:r.2.2≠0
 ·rw [if_pos h1];exact⟨fun h=>absurd h h1,fun _=>rfl⟩
 ·rw [if_neg h1]
  by_cases h2:r.1.err≠0
  ·rw [if_pos h2];exact⟨fun h=>absurd h (by decide),fun _=>rfl⟩
  ·rw [if_neg h2]
   obtain⟨_,_,h4,h5⟩:=h (Decidable.not_not.1 h1)
   refine⟨fun _=>⟨Decidable.not_not.1 h2,h4,?_⟩,fun h=>absurd rfl h⟩
   simp only
   split
   ·exact h5
   ·exact .nil _
def RsOk(r:Rs):Prop:=∀c,c.ok→ResOk c (r c)
theorem RsOk.good{r:Rs}(h:RsOk r){c:Ck}(hc:c.ok)(he:(r c).2.2=0):(r c).1.err=0∧(r c).1.okT c.tys∧UsesOk c.tys.length (r c).2.1:=(h c hc).1 he
theorem err_small{f:Fm}(h:f.err=0):f.shape=true∧f.size≤20000000:=by
 have:=(Fm.err_iff f).1 h;grind
theorem hypR_ok{c:Ck}(hc:c.ok){i:Int}(hi:0≤i):RuleOk c (hypR c i):=by
 unfold hypR
 split
 ·exact noRes_ok c (by decide)
 ·rename_i h
  intro _
  have hlt:c.hyps.length-1-i.toNat<c.hyps.length:=by omega
  simp only
  rw[getD_at hlt]
  obtain⟨h1,h2⟩:=hc.hyps _ (List.getElem_mem hlt)
  exact⟨(err_small h1).1,(err_small h1).2,h2,.nil _⟩
theorem lemR_ok{c:Ck}(hc:c.ok){i:Int}(hi:0≤i):RuleOk c (lemR c i):=by
 unfold lemR
 split
 ·exact noRes_ok c (by decide)
 ·rename_i h
  intro _
  have hlt:i.toNat<c.lems.length:=by omega
  simp only
  rw[getD_at hlt]
  obtain⟨h1,h2⟩:=hc.lems _ (List.getElem_mem hlt)
  have h3:=fokT_weak _ [] c.tys (err_small h1).1 h2
  rw[List.append_nil] at h3
  exact⟨(err_small h1).1,(err_small h1).2,h3,.nil _⟩
theorem andR_ok{r0 r1:Rs}(h0:RsOk r0)(h1:RsOk r1){c:Ck}(hc:c.ok):RuleOk c (andR r0 r1 c):=by
 unfold andR
 split
 ·rename_i h;exact noRes_ok c h
 ·rename_i h
  intro he
  obtain⟨a1,a2,a3⟩:=h0.good hc (Decidable.not_not.1 h)
  obtain⟨b1,b2,b3⟩:=h1.good hc he
  have s1:=(Fm.err_iff _).1 a1
  have s2:=(Fm.err_iff _).1 b1
  exact⟨two_shape_iff (.inl rfl) s1.1 s2.1,by rw[twoF_size];omega,fokT_two (.inl rfl) a2 b2,.union a3.2 b3.2⟩
theorem prjR_ok{r0:Rs}(h0:RsOk r0){c:Ck}(hc:c.ok){j:Nat}(hj:j<2):RuleOk c (prjR j r0 c):=by
 unfold prjR
 split
 ·rename_i h;exact noRes_ok c h
 rename_i h
 split
 ·exact noRes_ok c (by decide)
 rename_i h2
 intro _
 obtain⟨a1,a2,a3⟩:=h0.good hc (Decidable.not_not.1 h)
 have s1:=(Fm.err_iff _).1 a1
 obtain⟨x,y,e⟩:=two_of s1.1 (.inl (Decidable.not_not.1 h2))
 have hk:(r0 c).1.kind=2:=Decidable.not_not.1 h2
 rw[hk] at e
 rw[e] at a2
 obtain⟨o1,o2⟩:=two_okT (.inl rfl) a2
 have e1:=part_err a1 (x:=x) (by rw[e];simp[twoF])
 have e2:=part_err a1 (x:=y) (by rw[e];simp[twoF])
 have:(r0 c).1.args=[x,y]:=by rw[e];rfl
 simp only[this]
 rcases j with _|_|j
 ·exact ⟨(err_small e1).1,(err_small e1).2,o1,a3⟩
 ·exact ⟨(err_small e2).1,(err_small e2).2,o2,a3⟩
 ·omega
theorem impiR_ok{r0:Rs}(h0:RsOk r0){f:Fm}{c:Ck}(hc:c.ok):RuleOk c (impiR f r0 c):=by
 unfold impiR
 split
 ·rename_i h;exact noRes_ok c h
 rename_i h
 split
 ·exact noRes_ok c (by decide)
 rename_i h2
 intro he
 obtain⟨f1,f2⟩:=typedFC_inv (Decidable.not_not.1 h)
 have hr:=room_ok (Decidable.not_not.1 h2)
 obtain⟨a1,a2,a3⟩:=h0.good (hc.with_ (f:=f) hr.2 f1 f2) he
 have s1:=(Fm.err_iff _).1 a1
 have s2:=(Fm.err_iff _).1 f1
 exact⟨two_shape_iff (.inr rfl) s2.1 s1.1,by rw[twoF_size];omega,fokT_two (.inr rfl) f2 a2,a3⟩
theorem impeR_ok{r0 r1:Rs}(h0:RsOk r0)(h1:RsOk r1){c:Ck}(hc:c.ok):RuleOk c (impeR r0 r1 c):=by
 unfold impeR
 split
 ·rename_i h;exact noRes_ok c h
 rename_i h
 split
 ·exact noRes_ok c (by decide)
 rename_i h2
 split
 ·rename_i h;exact noRes_ok c h
 rename_i h3
 intro _
 obtain⟨a1,a2,a3⟩:=h0.good hc (Decidable.not_not.1 h)
 obtain⟨b1,b2,b3⟩:=h1.good hc (Decidable.not_not.1 h3)
 have s1:=(Fm.err_iff _).1 a1
 have hk:(r0 c).1.kind=3:=Decidable.not_not.1 h2
 obtain⟨x,y,e⟩:=two_of s1.1 (.inr hk)
 rw[hk] at e
 rw[e] at a2
 obtain⟨o1,o2⟩:=two_okT (.inr rfl) a2
 have e2:=part_err a1 (x:=y) (by rw[e];simp[twoF])
 have:(r0 c).1.args=[x,y]:=by rw[e];rfl
 simp only[this]
 exact⟨(err_small e2).1,(err_small e2).2,o2,.union a3.2 b3.2⟩
theorem allR_ok{r0:Rs}(h0:RsOk r0){k:Int}{s:Ty}(hs:s.err=0){c:Ck}(hc:c.ok):RuleOk c (allR k s r0 c):=by
 unfold allR
 split
 ·exact noRes_ok c (by decide)
 rename_i h
 have hr:=room_ok (Decidable.not_not.1 h)
 have hb:=hc.below (l:=[s]) hr.1 (by grind)
 split
 ·rename_i h;exact noRes_ok c h
 rename_i h2
 obtain⟨a1,a2,a3⟩:=h0.good hb (Decidable.not_not.1 h2)
 have s1:=(Fm.err_iff _).1 a1
 have hu:UsesOk c.tys.length (outI (r0 (c.below [s])).2.1 1):=by
  have:=UsesOk.out (n:=c.tys.length) (m:=1) (l:=(r0 (c.below [s])).2.1) (by simpa [Ck.below] using a3)
  omega
 split
 ·intro _
  exact⟨qu_shape_iff (by omega) hs s1.1,by rw[quF_size];omega,fokT_qu (by omega) a2,hu⟩
 split
 ·exact noRes_ok c (by decide)
 ·intro _
  exact⟨qu_shape_iff (by omega) hs s1.1,by rw[quF_size];omega,fokT_qu (by omega) a2,hu⟩
theorem atR_ok{r0:Rs}(h0:RsOk r0){k:Int}{t:Tm}{c:Ck}(hc:c.ok):RuleOk c (atR k t r0 c):=by
 unfold atR
 split
 ·rename_i h;exact noRes_ok c h
 rename_i h
 split
 ·rename_i h;exact noRes_ok c h
 rename_i h2
 split
 ·exact noRes_ok c (by decide)
 rename_i h3
 split
 ·exact noRes_ok c (by decide)
 rename_i h4
 intro he
 obtain⟨_,t1,t2,_⟩:=typeOf_inv (Decidable.not_not.1 h)
 obtain⟨a1,a2,a3⟩:=h0.good hc (Decidable.not_not.1 h2)
 have s1:=(Fm.err_iff _).1 a1
 have hk:(r0 c).1.kind=kI k 13 6 4:=Decidable.not_not.1 h3
 have hk':4≤(r0 c).1.kind∧(r0 c).1.kind≤7:=by rw[hk,kI];omega
 obtain⟨x,e⟩:=qu_of s1.1 hk'
 rw[e] at a2
 have o1:=qu_okT hk' a2
 have hx:(r0 c).1.args.getD 0 noFm=x:=by rw[e];rfl
 rw[hx] at he ⊢
 have hty:(r0 c).1.ty=(typeOf c.tys t).1:=Decidable.not_not.1 h4
 rw[hty] at o1
 obtain⟨p1,p2⟩:=putK_ok o1 t2 he
 refine⟨(err_small p1).1,(err_small p1).2,p2,?_⟩
 simp only[kL]
 split
 ·exact a3
 ·exact .union a3.2 (freeT_ok t2).2
theorem partR_ok{r0:Rs}(h0:RsOk r0){c:Ck}(hc:c.ok)(f:Fm)(t:Tm):UsesOk c.tys.length (partR r0 c f t).1:=by
 unfold partR
 split
 ·exact .nil _
 rename_i h
 split
 ·exact .nil _
 ·exact (h0.good hc (Decidable.not_not.1 h)).2.2
theorem exR_ok{r0:Rs}(h0:RsOk r0){k:Int}{f:Fm}{t:Tm}{c:Ck}(hc:c.ok):RuleOk c (exR k f t r0 c):=by
 unfold exR
 split
 ·rename_i h;exact noRes_ok c h
 rename_i h
 split
 ·exact noRes_ok c (by decide)
 split
 ·rename_i h;exact noRes_ok c h
 rename_i h3
 split
 ·exact noRes_ok c (by decide)
 intro _
 obtain⟨f1,f2⟩:=typedFC_inv (Decidable.not_not.1 h)
 obtain⟨_,t1,t2,_⟩:=typeOf_inv (Decidable.not_not.1 h3)
 have hp:=partR_ok h0 hc (f.args.getD 0 noFm) t
 refine⟨(err_small f1).1,(err_small f1).2,f2,?_⟩
 simp only[kL]
 split
 ·exact hp
 ·exact .union hp.2 (freeT_ok t2).2
theorem nrmTs_ok:∀(l:List Tm),(nrmTs l).2=0→(nrmTs l).1.length=l.length∧(∀t∈(nrmTs l).1,t.err=0)∧∀(g:List Ty) (T:Ty),(∀t∈l,t.inf g=(T,0))→∀t∈(nrmTs l).1,t.inf g=(T,0)
 |[],_=>⟨rfl,fun t h=>absurd h (List.not_mem_nil),fun g T _ t h=>absurd h (List.not_mem_nil)⟩
 |x::l,h=>by
  simp only[nrmTs] at h ⊢
  by_cases h1:(normR x 1000).2.2≠0
  ·grind
  ·rw [if_neg h1] at h ⊢
   by_cases h2:(nrmTs l).2≠0
   ·grind
   ·rw [if_neg h2]
    obtain⟨a1,a2,a3⟩:=nrmTs_ok l (Decidable.not_not.1 h2)
    obtain⟨_,b1,_,_,b2⟩:=normR_ok (Decidable.not_not.1 h1)
    grind
theorem normFs_ok(P:Fm→Fm→Prop):∀(l:List Fm),(∀f∈l,(normF f).2=0→P f (normF f).1)→(normFs l).2=0→(normFs l).1.length=l.length∧∀(i:Nat) (h1:i<l.length) (h2:i<(normFs l).1.length),P l[i] (normFs l).1[i]
 |[],_,_=>⟨rfl,fun i h=>by grind⟩
 |x::l,hP,h=>by
  have h0:=h
  simp only[normFs] at h0
  by_cases h1:(normF x).2≠0
  ·grind
  ·rw [if_neg h1] at h0
   by_cases h2:(normFs l).2≠0
   ·grind
   ·have e:normFs (x::l)=((normF x).1::(normFs l).1,0):=by simp only[normFs];grind
    obtain⟨a1,a2⟩:=normFs_ok P l (fun f hf=>hP f (by grind)) (Decidable.not_not.1 h2)
    grind
theorem lsum_const{α:Type}{f:α→Nat}{C:Nat}:∀(l:List α),(∀x∈l,f x≤C)→(l.map f).sum≤C*l.length
 |[],_=>by simp
 |x::l,h=>by
  have h1:=lsum_const l fun y hy=>h y (by grind)
  have h2:=h x (by simp)
  simp only[List.map_cons,List.sum_cons,List.length_cons,Nat.mul_add,Nat.mul_one];omega
theorem normF_ok(f:Fm):(normF f).2=0→f.shape=true→(normF f).1.kind=f.kind∧(normF f).1.shape=true∧(normF f).1.size≤4096*f.size∧∀g,f.okT g→(normF f).1.okT g:=by
 induction f using Fm.ind with
 |h f ih=>
  intro h hs
  rw[normF_eq] at h ⊢
  by_cases h1:(nrmTs f.terms).2≠0
  ·grind
  rw[if_neg h1] at h ⊢
  by_cases h2:(normFs f.args).2≠0
  ·grind
  rw[if_neg h2]
  obtain⟨a1,a2,a3⟩:=nrmTs_ok f.terms (Decidable.not_not.1 h1)
  obtain⟨b1,b2⟩:=normFs_ok (fun x y=>y.kind=x.kind∧y.shape=true∧y.size≤4096*x.size∧∀g,x.okT g→y.okT g) f.args (fun x hx he=>ih x hx he (fshape_args hs hx)) (Decidable.not_not.1 h2)
  have hsh:(Fm.mk f.kind f.ty (nrmTs f.terms).1 (normFs f.args).1).shape=true:=by
   rw[Fm.shape_eq,Bool.and_eq_true,Bool.and_eq_true] at hs ⊢
   refine⟨⟨?_,List.all_eq_true.2 fun t ht=>((Tm.err_iff t).1 (a2 t ht)).1⟩,List.all_eq_true.2 fun y hy=> ?_⟩
   ·have:=hs.1.1
    unfold Fm.head at this ⊢
    simp_all
   ·obtain ⟨i,hi,rfl⟩:=List.getElem_of_mem hy
    have hi':i<(normFs f.args).1.length:=hi
    simp_all
  refine⟨rfl,hsh,?_,fun g hok=> ?_⟩
  ·have e1:=f.size_eq
   rw[Fm.size_eq]
   simp only[Fm.terms_mk,Fm.args_mk]
   have s1:=lsum_const (f:=Tm.size) (C:=4096) (nrmTs f.terms).1 fun t ht=>((Tm.err_iff t).1 (a2 t ht)).2
   have s2:=lsum_len Tm.size Tm.size_pos f.terms
   have s3:((normFs f.args).1.map Fm.size).sum≤4096*(f.args.map Fm.size).sum:=by
    have:∀(l m:List Fm),m.length=l.length→(∀(i:Nat) (h1:i<l.length) (h2:i<m.length),m[i].size≤4096*l[i].size)→(m.map Fm.size).sum≤4096*(l.map Fm.size).sum:=by
     intro l
     induction l with
     |nil=>simp
     |cons x l ihl=>
      intro m hm hh
      match m,hm with
      |y::m,hm=>
       have q1:=ihl m (by grind) fun i h1 h2=>by have:=hh (i+1) (by grind) (by grind);grind
       have q2:=hh 0 (by simp) (by simp)
       grind
    grind
   omega
  ·rw [Fm.okT_iff] at hok ⊢
   refine⟨fun t ht=>a3 g natT hok.1 t ht,fun y hy=> ?_⟩
   obtain⟨i,hi,rfl⟩:=List.getElem_of_mem hy
   have hi':i<(normFs f.args).1.length:=hi
   have hc:ctxF g (Fm.mk f.kind f.ty (nrmTs f.terms).1 (normFs f.args).1)=ctxF g f:=rfl
   simp_all
theorem lower_put{f:Fm}(s:Tm)(hs:f.shape=true)(h:timesF 0 f=0):f.lft 1 (-1)=f.put 0 s:=by
 refine Fm.re_congr f 0 fun p hp=> ?_
 have h1:=cntF_zero h p hp
 have h2:=tms_snd p hp
 refine re_congr p.1 0 fun q hq=> ?_
 have h3:=cnt_zero h1 q hq
 rw[liftG_eq,putG_eq]
 grind
theorem lower_ok{f:Fm}{g:List Ty}{σ:Ty}(hσ:σ.err=0)(hs:f.shape=true)(h:timesF 0 f=0)(hok:f.okT (g++[σ])):(f.lft 1 (-1)).shape=true∧(f.lft 1 (-1)).size=f.size∧(f.lft 1 (-1)).okT g:=by
 have h1:=(Ty.err_iff σ).1 hσ
 obtain⟨d1,d2,_⟩:=dfl_facts σ h1.1 h1.2
 rw[lower_put (dfl σ) hs h]
 refine⟨fput_shape (by omega) d2 hs,?_,?_⟩
 ·have:=fput_size 0 (dfl σ) d2 f hs 0
  have e:cntF 0 (f.tms 0)=0:=h
  show(f.re (fun b t=>t.re (putG (0+b) (dfl σ)) 0) 0).size=f.size
  grind
 ·have h3:=fokT_put 0 (dfl σ) g σ d2 (d1 g) f [] 0 rfl hs (by grind)
  rw[List.append_nil] at h3
  exact h3
theorem freeR_ok{f:Fm}(hf:f.err=0)(h:(freeR f).2=0):(freeR f).1.shape=true∧(freeR f).1.size≤16777216∧timesF 0 (freeR f).1=0∧(∀g,f.okT g→(freeR f).1.okT g)∧(freeR f).1.kind=f.kind:=by
 have s1:=(Fm.err_iff _).1 hf
 unfold freeR at h ⊢
 by_cases h1:timesF 0 f=0
 ·grind
 rw[if_neg h1] at h ⊢
 by_cases h2:(normF f).2≠0
 ·grind
 rw[if_neg h2] at h ⊢
 by_cases h3:timesF 0 (normF f).1≠0
 ·grind
 rw[if_neg h3]
 obtain⟨k,a,b,c⟩:=normF_ok f (Decidable.not_not.1 h2) s1.1
 grind
theorem opnR_ok{r0 r1:Rs}(h0:RsOk r0)(h1:RsOk r1){k:Int}{c:Ck}(hc:c.ok):RuleOk c (opnR k r0 r1 c):=by
 unfold opnR
 split
 ·rename_i h;exact noRes_ok c h
 rename_i e0
 split
 ·exact noRes_ok c (by decide)
 rename_i e1
 split
 ·exact noRes_ok c (by decide)
 rename_i e2
 split
 ·rename_i h;exact noRes_ok c h
 rename_i e3
 split
 ·rename_i h;exact noRes_ok c h
 rename_i e4
 split
 ·exact noRes_ok c (by decide)
 intro _
 obtain⟨a1,a2,a3⟩:=h0.good hc (Decidable.not_not.1 e0)
 have s1:=(Fm.err_iff _).1 a1
 have hk:(r0 c).1.kind=kI k 15 7 5:=Decidable.not_not.1 e1
 have hk':4≤(r0 c).1.kind∧(r0 c).1.kind≤7:=by rw[hk,kI];omega
 obtain⟨x,e⟩:=qu_of s1.1 hk'
 have ex:x.err=0:=part_err a1 (by rw[e];simp[quF])
 rw[e] at a2
 have o1:=qu_okT hk' a2
 have hx:(r0 c).1.args.getD 0 noFm=x:=by rw[e];rfl
 have hr:=room_ok (Decidable.not_not.1 e2)
 have hte:=qu_err s1.1 hk'
 have hb:((c.below [(r0 c).1.ty]).with_ x).ok:=(hc.below (l:=[(r0 c).1.ty]) hr.1 (by grind)).with_ (by simpa [Ck.below] using hr.2) ex o1
 have hob:openB r1 c (r0 c).1=r1 ((c.below [(r0 c).1.ty]).with_ x):=by unfold openB;rw[hx]
 rw[hob] at e3 e4 ⊢
 obtain⟨b1,b2,b3⟩:=h1.good hb (Decidable.not_not.1 e3)
 obtain⟨f1,f2,f3,f4,_⟩:=freeR_ok b1 (Decidable.not_not.1 e4)
 obtain⟨l1,l2,l3⟩:=lower_ok hte f1 f3 (f4 _ b2)
 have hu:=UsesOk.out (n:=c.tys.length) (m:=1) (l:=(r1 ((c.below [(r0 c).1.ty]).with_ x)).2.1) (by simpa [Ck.below,Ck.with_] using b3)
 exact⟨l1,by grind,l3,.union a3.2 hu.2⟩
theorem zT_inf(g:List Ty):zT.inf g=(natT,0):=by rfl
theorem nil_inf(g:List Ty):nilM.inf g=(listT,0):=by rfl
theorem kTyp_nat{c:Ck}{t:Tm}(h:kTyp c t 1=0):t.err=0∧t.inf c.tys=(natT,0):=by
 obtain⟨a,b,d,e⟩:=kTyp_inv h
 exact⟨a,by rw[b,nat_of d e]⟩
theorem kTyp_list{c:Ck}{t:Tm}(h:kTyp c t 2=0):t.err=0∧t.inf c.tys=(listT,0):=by
 obtain⟨a,b,d,e⟩:=kTyp_inv h
 exact⟨a,by rw[b,list_of d e]⟩
theorem nat_err:natT.err=0:=by decide
theorem list_err:listT.err=0:=by decide
theorem Ck.ok.one{c:Ck}(h:c.ok){s:Ty}(hs:s.err=0):∀x∈c.tys++[s],x.err=0:=fun x hx=>by
 rcases List.mem_append.1 hx with hx|hx
 ·exact h.all x hx
 grind
theorem indR_ok{r0 r1:Rs}(h0:RsOk r0)(h1:RsOk r1){f:Fm}{t:Tm}{c:Ck}(hc:c.ok):RuleOk c (indR f t r0 r1 c):=by
 unfold indR
 split
 ·rename_i h;exact noRes_ok c h
 rename_i e0
 split
 ·rename_i h;exact noRes_ok c h
 rename_i e1
 split
 ·rename_i h;exact noRes_ok c h
 rename_i e2
 split
 ·exact noRes_ok c (by decide)
 rename_i e3
 split
 ·rename_i h;exact noRes_ok c h
 intro he
 obtain⟨f1,f2⟩:=typedF_inv (hc.one nat_err) (Decidable.not_not.1 e0)
 obtain⟨t1,t2⟩:=kTyp_nat (Decidable.not_not.1 e1)
 obtain⟨p1,p2⟩:=putK_ok f2 t2 he
 have hr:=room_ok (Decidable.not_not.1 e3)
 have hb:((c.below [natT]).with_ f).ok:=(hc.below (l:=[natT]) hr.1 (by simp[nat_err])).with_ (by simpa [Ck.below] using hr.2) f1 f2
 have hu:=UsesOk.out (n:=c.tys.length) (m:=1) (l:=(partR r1 ((c.below [natT]).with_ f) (f.lft 1 1) (sT (vT 0))).1) (by simpa [Ck.below,Ck.with_] using partR_ok h1 hb (f.lft 1 1) (sT (vT 0)))
 refine⟨(err_small p1).1,(err_small p1).2,p2,.union (fun u hu=> ?_) hu.2⟩
 rcases mem_unionI.1 hu with h|h
 ·exact (freeT_ok t2).2 u h
 ·exact (partR_ok h0 hc f zT).2 u h
theorem listR_ok{r0 r1:Rs}(h0:RsOk r0)(h1:RsOk r1){f:Fm}{t:Tm}{c:Ck}(hc:c.ok):RuleOk c (listR f t r0 r1 c):=by
 unfold listR
 split
 ·rename_i h;exact noRes_ok c h
 rename_i e0
 split
 ·rename_i h;exact noRes_ok c h
 rename_i e1
 split
 ·rename_i h;exact noRes_ok c h
 rename_i e2
 split
 ·exact noRes_ok c (by decide)
 rename_i e3
 split
 ·rename_i h;exact noRes_ok c h
 intro he
 obtain⟨f1,f2⟩:=typedF_inv (hc.one list_err) (Decidable.not_not.1 e0)
 obtain⟨t1,t2⟩:=kTyp_list (Decidable.not_not.1 e1)
 obtain⟨p1,p2⟩:=putK_ok f2 t2 he
 have hr:=room_ok (Decidable.not_not.1 e3)
 have hl:=lft_okTs (g:=c.tys) (h:=[listT]) [natT] ((Fm.err_iff f).1 f1).1 f2
 have hb:((c.below [natT,listT]).with_ (f.lft 1 1)).ok:=(hc.below (l:=[natT,listT]) hr.1 (by simp[nat_err,list_err])).with_ (by simpa [Ck.below] using hr.2) (lft_err f1 (by omega)) (by simpa [Ck.below] using hl)
 have hu:=UsesOk.out (n:=c.tys.length) (m:=2) (l:=(partR r1 ((c.below [natT,listT]).with_ (f.lft 1 1)) (f.lft 1 2) consM).1) (by simpa [Ck.below,Ck.with_] using partR_ok h1 hb (f.lft 1 2) consM)
 refine⟨(err_small p1).1,(err_small p1).2,p2,.union (fun u hu=> ?_) hu.2⟩
 rcases mem_unionI.1 hu with h|h
 ·exact (freeT_ok t2).2 u h
 ·exact (partR_ok h0 hc f nilM).2 u h
theorem reflR_ok{t:Tm}{c:Ck}(hc:c.ok):RuleOk c (reflR t c):=by
 intro he
 obtain⟨t1,t2⟩:=kTyp_nat he
 have s:=(Tm.err_iff t).1 t1
 exact⟨eqF_shape s.1 s.1,by show(eqF t t).size≤_;rw[eqF_size];omega,eq_okT.2 ⟨t2,t2⟩,.nil _⟩
theorem substR_ok{r0 r1:Rs}(h0:RsOk r0)(h1:RsOk r1){f:Fm}{c:Ck}(hc:c.ok):RuleOk c (substR f r0 r1 c):=by
 unfold substR
 split
 ·rename_i h;exact noRes_ok c h
 rename_i e0
 split
 ·rename_i h;exact noRes_ok c h
 rename_i e1
 split
 ·exact noRes_ok c (by decide)
 rename_i e2
 split
 ·rename_i h;exact noRes_ok c h
 intro he
 obtain⟨f1,f2⟩:=typedF_inv (hc.one nat_err) (Decidable.not_not.1 e0)
 obtain⟨a1,a2,a3⟩:=h0.good hc (Decidable.not_not.1 e1)
 obtain⟨x,y,e⟩:=eq_of ((Fm.err_iff _).1 a1).1 (Decidable.not_not.1 e2)
 rw[e] at a2
 have hy:(r0 c).1.terms.getD 1 noTm=y:=by rw[e];rfl
 rw[hy] at he ⊢
 obtain⟨p1,p2⟩:=putK_ok f2 (eq_okT.1 a2).2 he
 exact⟨(err_small p1).1,(err_small p1).2,p2,partR_ok h1 hc _ _⟩
theorem appV_inf(g:List Ty)(s u:Ty):appV.inf (g++[funT s u]++[s])=(u,0):=by
 refine apt_inf (a:=s) ?_ ?_
 ·rw [inf_var' _ _ (by omega),if_neg (by grind),look_left (by simp) (by simp),look_right (by simp)];rfl
 ·rw [inf_var' _ _ (by omega),if_neg (by grind),look_right (by simp)];rfl
theorem choiceR_ok{r0:Rs}(h0:RsOk r0){c:Ck}(hc:c.ok):RuleOk c (choiceR r0 c):=by
 unfold choiceR
 split
 ·rename_i h;exact noRes_ok c h
 rename_i e0
 split
 ·exact noRes_ok c (by decide)
 rename_i e1
 split
 ·exact noRes_ok c (by decide)
 rename_i e2
 intro he
 obtain⟨a1,a2,a3⟩:=h0.good hc (Decidable.not_not.1 e0)
 rw[not_or,Decidable.not_not,Decidable.not_not] at e1
 have s1:=(Fm.err_iff _).1 a1
 obtain⟨x,e⟩:=qu_of s1.1 (by omega)
 have ex:x.err=0:=part_err a1 (by rw[e];simp[quF])
 have hx:(r0 c).1.args.getD 0 noFm=x:=by rw[e];rfl
 have hte:=qu_err s1.1 (by omega)
 rw[hx] at e1
 have s2:=(Fm.err_iff _).1 ex
 obtain⟨y,e'⟩:=qu_of s2.1 (by omega)
 have hte':=qu_err s2.1 (by omega)
 have ey:y.err=0:=part_err ex (by rw[e'];simp[quF])
 have hy:x.args.getD 0 noFm=y:=by rw[e'];rfl
 rw[e] at a2
 have o1:=qu_okT (by omega) a2
 rw[e'] at o1
 have o2:=qu_okT (by omega) o1
 have hcf:chF (r0 c).1=funT (r0 c).1.ty x.ty:=by unfold chF;rw[hx]
 have hcb:chB (r0 c).1=putK (y.lft 2 1) appV:=by unfold chB;grind
 rw[hcf] at e2 ⊢
 rw[hcb] at he ⊢
 have hl:=lft_okTs (g:=c.tys) (h:=[(r0 c).1.ty,x.ty]) [funT (r0 c).1.ty x.ty] ((Fm.err_iff y).1 ey).1 (by grind)
 have hl':(y.lft 2 1).okT (c.tys++[funT (r0 c).1.ty x.ty]++[(r0 c).1.ty]++[x.ty]):=by grind
 obtain⟨p1,p2⟩:=putK_ok hl' (appV_inf _ _ _) he
 have s3:=(Fm.err_iff _).1 p1
 refine⟨qu_shape_iff (by omega) (Decidable.not_not.1 e2) (qu_shape_iff (by omega) hte s3.1),by simp only[quF_size];omega,fokT_qu (by omega) (fokT_qu (by omega) p2),a3⟩
theorem rs_at{l:List Pf}{i:Nat}(hi:i<l.length):(l.map infP).getD i (fun _=>noRes 0)=infP l[i]:=by
 grind
theorem pshape_parts{p:Pf}(h:p.shape=true):p.head=true∧(∀t∈p.terms,t.shape=true)∧(∀f∈p.forms,f.shape=true)∧∀x∈p.args,x.shape=true:=by
 rw[p.shape_eq] at h
 grind
theorem ok_err0{t:Ty}(h:t.ok=true):t.err=0:=by
 simp only[Ty.ok,Bool.and_eq_true,decide_eq_true_eq] at h
 exact(Ty.err_iff t).2 h
theorem phead{p:Pf}(h:p.head=true):∃nd,ndP p.kind=some nd∧p.terms.length=nd.terms∧p.forms.length=nd.forms∧p.args.length=nd.args∧0≤p.index∧(nd.typ=true→p.ty.err=0)∧1≤p.kind∧p.kind≤20:=by
 unfold Pf.head at h
 cases hn:ndP p.kind with
 |none=>grind
 |some nd=>
  rw[hn] at h
  have hk:1≤p.kind∧p.kind≤20:=by
   refine Decidable.byContradiction fun hc=> ?_
   have:ndP p.kind=none:=by
    unfold ndP
    repeat rw[if_neg (by omega)]
   grind
  simp only[Bool.and_eq_true,decide_eq_true_eq,beq_iff_eq] at h
  refine⟨nd,rfl,by omega,by omega,by omega,by omega,fun ht=> ?_,hk⟩
  simp only[ht,if_true] at h
  exact ok_err0 h.2
theorem infP_ok(p:Pf):p.shape=true→RsOk (infP p):=by
 induction p using Pf.ind with
 |h p ih=>
  intro hs c hc
  rw[infP_eq]
  refine finR_ok ?_
  obtain⟨h1,h2,h3,h4⟩:=pshape_parts hs
  obtain⟨nd,n1,n2,n3,n4,n5,n6,n7⟩:=phead h1
  have hrs:∀i,i<p.args.length→RsOk ((p.args.map infP).getD i fun _=>noRes 0):=fun i hi=>by
   simp_all
  have hk:p.kind=1∨p.kind=2∨p.kind=3∨p.kind=4∨p.kind=5∨p.kind=6∨p.kind=7∨p.kind=8∨p.kind=9∨p.kind=10∨p.kind=11∨p.kind=12∨p.kind=13∨p.kind=14∨p.kind=15∨p.kind=16∨p.kind=17∨p.kind=18∨p.kind=19∨p.kind=20:=by omega
  unfold ruleR
  rcases hk with e|e|e|e|e|e|e|e|e|e|e|e|e|e|e|e|e|e|e|e<;>rw[e] at n1 ⊢<;>simp only[ndP] at n1<;>(try(simp at n1))<;>(try subst n1)<;>simp only[reduceIte,Int.reduceEq,or_false,or_true]<;>simp only at n4 n6
  ·exact hypR_ok hc n5
  ·exact lemR_ok hc n5
  ·exact andR_ok (hrs 0 (by omega)) (hrs 1 (by omega)) hc
  ·exact prjR_ok (hrs 0 (by omega)) hc (by decide)
  ·exact prjR_ok (hrs 0 (by omega)) hc (by decide)
  ·exact impiR_ok (hrs 0 (by omega)) hc
  ·exact impeR_ok (hrs 0 (by omega)) (hrs 1 (by omega)) hc
  ·exact allR_ok (hrs 0 (by omega)) (n6 trivial) hc
  ·exact atR_ok (hrs 0 (by omega)) hc
  ·exact exR_ok (hrs 0 (by omega)) hc
  ·exact opnR_ok (hrs 0 (by omega)) (hrs 1 (by omega)) hc
  ·exact allR_ok (hrs 0 (by omega)) (n6 trivial) hc
  ·exact atR_ok (hrs 0 (by omega)) hc
  ·exact exR_ok (hrs 0 (by omega)) hc
  ·exact opnR_ok (hrs 0 (by omega)) (hrs 1 (by omega)) hc
  ·exact indR_ok (hrs 0 (by omega)) (hrs 1 (by omega)) hc
  ·exact listR_ok (hrs 0 (by omega)) (hrs 1 (by omega)) hc
  ·exact reflR_ok hc
  ·exact substR_ok (hrs 0 (by omega)) (hrs 1 (by omega)) hc
  ·exact choiceR_ok (hrs 0 (by omega)) hc
theorem ln1{α:Type}{l:List α}(h:l.length=1):∃a,l=[a]:=by
 match l,h with
 |[a],_=>simp
theorem ln2{α:Type}{l:List α}(h:l.length=2):∃a b,l=[a,b]:=by
 match l,h with
 |[a,b],_=>simp
theorem ln0{α:Type}{l:List α}(h:l.length=0):l=[]:=List.eq_nil_of_length_eq_zero h
theorem ruleR_ok{p:Pf}(hs:p.shape=true){c:Ck}(hc:c.ok):RuleOk c (ruleR p.kind p.index p.ty p.terms p.forms (p.args.map infP) c):=by
 obtain⟨h1,h2,h3,h4⟩:=pshape_parts hs
 obtain⟨nd,n1,n2,n3,n4,n5,n6,n7⟩:=phead h1
 have hrs:∀i,i<p.args.length→RsOk ((p.args.map infP).getD i fun _=>noRes 0):=fun i hi=>by
  rw[rs_at hi];exact infP_ok _ (h4 _ (List.getElem_mem hi))
 have hk:p.kind=1∨p.kind=2∨p.kind=3∨p.kind=4∨p.kind=5∨p.kind=6∨p.kind=7∨p.kind=8∨p.kind=9∨p.kind=10∨p.kind=11∨p.kind=12∨p.kind=13∨p.kind=14∨p.kind=15∨p.kind=16∨p.kind=17∨p.kind=18∨p.kind=19∨p.kind=20:=by omega
 unfold ruleR
 rcases hk with e|e|e|e|e|e|e|e|e|e|e|e|e|e|e|e|e|e|e|e<;>rw[e] at n1 ⊢<;>simp only[ndP] at n1<;>(try(simp at n1))<;>(try subst n1)<;>simp only[reduceIte,Int.reduceEq,or_false,or_true]<;>simp only at n4 n6
 ·exact hypR_ok hc n5
 ·exact lemR_ok hc n5
 ·exact andR_ok (hrs 0 (by omega)) (hrs 1 (by omega)) hc
 ·exact prjR_ok (hrs 0 (by omega)) hc (by decide)
 ·exact prjR_ok (hrs 0 (by omega)) hc (by decide)
 ·exact impiR_ok (hrs 0 (by omega)) hc
 ·exact impeR_ok (hrs 0 (by omega)) (hrs 1 (by omega)) hc
 ·exact allR_ok (hrs 0 (by omega)) (n6 trivial) hc
 ·exact atR_ok (hrs 0 (by omega)) hc
 ·exact exR_ok (hrs 0 (by omega)) hc
 ·exact opnR_ok (hrs 0 (by omega)) (hrs 1 (by omega)) hc
 ·exact allR_ok (hrs 0 (by omega)) (n6 trivial) hc
 ·exact atR_ok (hrs 0 (by omega)) hc
 ·exact exR_ok (hrs 0 (by omega)) hc
 ·exact opnR_ok (hrs 0 (by omega)) (hrs 1 (by omega)) hc
 ·exact indR_ok (hrs 0 (by omega)) (hrs 1 (by omega)) hc
 ·exact listR_ok (hrs 0 (by omega)) (hrs 1 (by omega)) hc
 ·exact reflR_ok hc
 ·exact substR_ok (hrs 0 (by omega)) (hrs 1 (by omega)) hc
 ·exact choiceR_ok (hrs 0 (by omega)) hc
theorem arg0_full(f:Fm):(f.args.getD 0 noFm).full≤f.full+2:=by
 cases h:f.args with
 |nil=>exact Nat.le_trans (by decide:noFm.full≤2) (by omega)
 |cons x l=>
  have:=lsum_mem Fm.full (l:=f.args) (t:=x) (by grind)
  have:=f.full_eq
  grind
def seqE(lems:List Fm)(tys:List Ty)(hyps:List Fm):Int:=
 if lems.length>32 then 3 else if firstI (typedFC []) lems≠0 then firstI (typedFC []) lems else if ctxErr tys≠0 then ctxErr tys
 else if hyps.length>16 then 3 else firstI (typedFC tys) hyps
theorem seqE_ok{lems:List Fm}{tys:List Ty}{hyps:List Fm}(h:seqE lems tys hyps=0):(Ck.mk lems tys hyps).ok:=by
 unfold seqE at h
 by_cases h1:lems.length>32
 ·omega
 rw[if_neg h1] at h
 by_cases h2:firstI (typedFC []) lems≠0
 ·omega
 rw[if_neg h2] at h
 by_cases h3:ctxErr tys≠0
 ·omega
 rw[if_neg h3] at h
 by_cases h4:hyps.length>16
 ·omega
 rw[if_neg h4] at h
 exact⟨Decidable.not_not.1 h3,by grind,by grind,fun f hf=>typedFC_inv (firstI_zero h f hf),fun f hf=>typedFC_inv (firstI_zero (Decidable.not_not.1 h2) f hf)⟩
theorem seqE_of{c:Ck}(h:c.ok):seqE c.lems c.tys c.hyps=0:=by
 unfold seqE
 rw[if_neg (by have:=h.nl;omega),if_neg,if_neg (by simp[h.ctx]),if_neg (by have:=h.nh;omega)]
 ·exact firstI_all fun f hf=>okT_typedFC (h.hyps f hf).2 (h.hyps f hf).1 h.ctx
 ·rw [firstI_all fun f hf=>okT_typedFC (h.lems f hf).2 (h.lems f hf).1 rfl];simp
def InferR(lems:List Fm)(tys:List Ty)(hyps:List Fm)(p:Pf):Res:=
 if seqE lems tys hyps≠0 then noRes (seqE lems tys hyps) else if p.err≠0 then noRes p.err else infP p ⟨lems,tys,hyps⟩
def AcceptsR(lems:List Fm)(tys:List Ty)(hyps:List Fm)(p:Pf)(f:Fm):Int:=
 if(InferR lems tys hyps p).2.2≠0 then(InferR lems tys hyps p).2.2 else if typedFC tys f≠0 then typedFC tys f else mtchF (InferR lems tys hyps p).1 f
theorem pf_parts{p:Pf}(hs:p.shape=true):∃nd,ndP p.kind=some nd∧p.terms.length=nd.terms∧p.forms.length=nd.forms∧p.args.length=nd.args∧0≤p.index∧(nd.index=false→p.index=0)∧(nd.typ=true→p.ty.err=0)∧(nd.typ=false→p.ty= .mk 0 [])∧1≤p.kind∧p.kind≤20:=by
 have h:=(pshape_parts hs).1
 obtain⟨nd,n1,n2,n3,n4,n5,n6,n7⟩:=phead h
 refine⟨nd,n1,n2,n3,n4,n5,?_,n6,?_,n7⟩
 ·intro hi
  unfold Pf.head at h
  grind
 ·intro hi
  unfold Pf.head at h
  rw[n1] at h
  simp only[Bool.and_eq_true,decide_eq_true_eq,beq_iff_eq,Bool.or_eq_true] at h
  have h2:=h.2
  rw[if_neg (by grind)] at h2
  exact Ty.no_of h2
theorem mtchR_refl{t:Tm}(h:t.err=0)(k:Int):mtchR t t k=0:=by
 unfold mtchR;grind
theorem mtTs_refl:∀(l:List Tm),(∀t∈l,t.err=0)→mtTs l l=0:=fun l h=>mtTs_none l l fun j h1 _=>mtchR_refl (h _ (List.getElem_mem h1)) 1000
theorem mtF_refl(f:Fm):f.err=0→mtF f f=0:=by
 induction f using Fm.ind with
 |h f ih=>
  intro he
  rw[mtF_eq,if_pos ⟨rfl,rfl⟩,mtTs_refl f.terms (fun t ht=>term_err he ht),if_neg (by simp)]
  exact mtFs_none f.args f.args fun j h1 _=>ih _ (List.getElem_mem h1) (part_err he (List.getElem_mem h1))
theorem mtchF_refl{f:Fm}(he:f.err=0):mtchF f f=0:=by
 unfold mtchF;rw[if_neg (by omega),if_neg (by omega)];exact mtF_refl f he
theorem refl_inf{c:Ck}{s:Tm}(hk:kTyp c s 1=0)(he:(eqF s s).err=0):infP (reflP s) c=(eqF s s,[],0):=by
 rw[infP_eq]
 have e:ruleR (reflP s).kind (reflP s).index (reflP s).ty (reflP s).terms (reflP s).forms ((reflP s).args.map infP) c=reflR s c:=rfl
 rw[e]
 unfold reflR finR
 grind
theorem kTyp_of{c:Ck}(hc:c.ok){s:Tm}(he:s.err=0)(hi:s.inf c.tys=(natT,0)):kTyp c s 1=0:=by
 have e:typeOf c.tys s=(natT,0):=by
  unfold typeOf typed
  rw[if_neg (by simp[hc.ctx]),if_neg (by omega),hi]
 unfold kTyp
 rw[e];rfl
structure NumOk (g:List Ty) (s:Tm):Prop where
 err:s.err=0
 inf:s.inf g=(natT,0)
 size:s.size≤900
theorem NumOk.shape{g:List Ty}{s:Tm}(h:NumOk g s):s.shape=true:=((Tm.err_iff s).1 h.err).1
theorem NumOk.near{g:List Ty}{s:Tm}(h:NumOk g s)(hg:g.length≤1000):s.near=true:=near_of (by rw[h.inf]) h.shape (by have:=h.size;omega)
theorem eqf_err{a b:Tm}(ha:a.shape=true)(hb:b.shape=true)(hz:a.size+b.size≤4095):(eqF a b).err=0:=
 (Fm.err_iff _).2 ⟨eqF_shape ha hb,by rw[eqF_size];omega⟩
theorem v0_inf(g:List Ty)(u:Ty):(vT 0).inf (g++[u])=(u,0):=by
 rw[inf_var' _ _ (by omega),if_neg (by simp)]
 have:look (g++[u]) 0=look [u] 0:=look_right (by simp)
 simp only[Int.toNat_zero]
 rw[this];rfl
theorem cntEq(a b:Tm):cntF 0 ((eqF a b).tms 0)=cnt 0 (a.vars 0)+cnt 0 (b.vars 0):=by
 rfl
theorem nearEq{a b:Tm}(ha:a.near=true)(hb:b.near=true):(eqF a b).near=true:=by
 unfold Fm.near
 simp[eqF,Fm.tms,Fm.tmss,ha,hb]
structure SideOk (g:List Ty) (a b:Tm):Prop where
 sa:a.shape=true
 sb:b.shape=true
 ia:a.inf (g++[natT])=(natT,0)
 ib:b.inf (g++[natT])=(natT,0)
 sz:a.size+b.size≤3000
theorem SideOk.err{g:List Ty}{a b:Tm}(h:SideOk g a b):(eqF a b).err=0:=eqf_err h.sa h.sb (by have:=h.sz;omega)
theorem SideOk.near{g:List Ty}{a b:Tm}(h:SideOk g a b)(hg:g.length≤16):(eqF a b).near=true:=
 nearEq (near_of (by rw[h.ia]) h.sa (by have:=h.sz;grind)) (near_of (by rw[h.ib]) h.sb (by have:=h.sz;grind))
theorem SideOk.put{g:List Ty}{a b s:Tm}(h:SideOk g a b)(hg:g.length≤16)(hs:NumOk g s)(hz:1+a.size+b.size+(cnt 0 (a.vars 0)+cnt 0 (b.vars 0))*s.size≤4096):putFErr (eqF a b) 0 s=0:=by
 unfold putFErr
 rw[if_neg (by simp[h.err]),if_neg (by omega),if_neg (by simp[hs.err]),if_neg (by simp[h.near hg,hs.near (by omega)]),if_neg]
 rw[cntEq,eqF_size]
 grind
theorem NumOk.refl{c:Ck}(hc:c.ok){s:Tm}(h:NumOk c.tys s):infP (reflP s) c=(eqF s s,[],0):=
 refl_inf (kTyp_of hc h.err h.inf) (eqf_err h.shape h.shape (by have:=h.size;omega))
structure FunOk (g:List Ty) (f:Tm):Prop where
 err:f.err=0
 inf:f.inf g=(funT natT natT,0)
 size:f.size≤500
abbrev hypP(i:Int):Pf:= .mk 1 i (.mk 0 []) [] [] []
theorem reflP_err{s:Tm}(h:s.err=0):(reflP s).err=0:=by
 have h1:=(Tm.err_iff s).1 h
 rw[Pf.err_iff]
 refine⟨?_,?_,?_⟩
 ·rw [Pf.shape_eq]
  simp[reflP,Pf.head,ndP,h1.1,Ty.isNo,Ty.kind,Ty.args]
 ·rw [Pf.small_eq];simp[reflP,h1.2]
 ·rw [Pf.size_eq];simp[reflP];omega
theorem reflP_size(s:Tm):(reflP s).size=1+s.size:=by rfl
theorem Fm.re_shift(G:Int→Tm→Tm)(c:Int)(f:Fm):∀b,f.re G (b+c)=f.re (fun b t=>G (b+c) t) b:=by
 induction f using Fm.ind with
 |h f ih=>
  intro b
  have e:upF f.kind (b+c)=upF f.kind b+c:=by simp only[upF];grind
  rw[Fm.re_eq,Fm.re_eq,e]
  simp_all
theorem fput_at(f:Fm)(a:Int)(s:Tm):f.put a s=f.re (fun b t=>t.re (putG (a+b) s) 0) 0:=rfl
theorem put_qu{k:Int}(hk:quantK k=true)(s:Ty)(f:Fm)(a:Int)(x:Tm):(quF k s f).put a x=quF k s (f.put (a+1) x):=by
 rw[fput_at,Fm.re_eq]
 simp only[quF,Fm.kind,Fm.ty,Fm.terms,Fm.args,List.map_nil,List.map_cons]
 congr 2
 have e:upF k 0=0+1:=by simp[upF,hk]
 rw[e,Fm.re_shift,fput_at]
 grind
structure Gf (g:List Ty) (f:Fm) (n:Nat):Prop where
 sh:f.shape=true
 sz:f.size≤n
 ok:f.okT g
structure Gt (g:List Ty) (s:Tm) (T:Ty) (m:Nat):Prop where
 sh:s.shape=true
 sz:s.size≤m
 inf:s.inf g=(T,0)
theorem Gf.err{g:List Ty}{f:Fm}{n:Nat}(h:Gf g f n)(hn:n≤4096):f.err=0:=(Fm.err_iff f).2 ⟨h.sh,Nat.le_trans h.sz hn⟩
theorem Gt.err{g:List Ty}{s:Tm}{T:Ty}{m:Nat}(h:Gt g s T m)(hn:m≤4096):s.err=0:=(Tm.err_iff s).2 ⟨h.sh,Nat.le_trans h.sz hn⟩
theorem cntF_le_size(f:Fm)(a:Int):cntF a (f.tms 0)≤f.size:=by
 have h1:=cntF_le a (f.tms 0)
 have h2:=tms_size f 0
 omega
theorem Gf.put{g:List Ty}{f:Fm}{n m:Nat}{s:Tm}{T:Ty}(hf:Gf (g++[T]) f n)(hs:Gt g s T m)(hm:1≤m)(hz:n*m≤4096)(hg:g.length≤20):
 putFErr f 0 s=0∧Gf g (f.put 0 s) (n*m):=by
 have hn:n≤n*m:=Nat.le_mul_of_pos_right n hm
 have ef:=hf.err (by omega)
 have hp:=s.size_pos
 have p2:=f.size_pos
 have hmz:m≤4096:=by
  have:1*m≤n*m:=Nat.mul_le_mul_right m (by have:=hf.sz;omega)
  omega
 have es:=hs.err hmz
 have nf:=(fokT_near hf.ok ef (by grind)).1
 have ns:=near_of (t:=s) (g:=g) (by rw[hs.inf]) hs.sh (by have:=hs.sz;omega)
 have hc:=cntF_le_size f 0
 have h1:cntF 0 (f.tms 0)*(s.size-1)≤n*(m-1):=Nat.mul_le_mul (Nat.le_trans hc hf.sz) (by have:=hs.sz;omega)
 have h2:n*(m-1)+n=n*m:=by rw[←Nat.mul_succ];grind
 have h3:=hf.sz
 refine⟨?_,fput_shape (by omega) hs.sh hf.sh,?_,?_⟩
 ·unfold putFErr
  grind
 ·have h4:=fput_size 0 s hs.sh f hf.sh 0
  have h5:(f.put 0 s).size=f.size+cntF 0 (f.tms 0)*(s.size-1):=h4
  omega
 ·have h6:=fokT_put 0 s g T hs.sh hs.inf f [] 0 rfl hf.sh (by simpa using hf.ok)
  have h7:(f.put 0 s).okT (g++[]):=h6
  grind
theorem Gt.zero(g:List Ty):Gt g zT natT 1:=⟨by decide,by decide,zT_inf g⟩
theorem Gt.nil(g:List Ty):Gt g nilM listT 1:=⟨by decide,by decide,nil_inf g⟩
theorem Gt.v0(g:List Ty)(u:Ty):Gt (g++[u]) (vT 0) u 1:=⟨by decide,by decide,v0_inf g u⟩
theorem Gt.v1(g:List Ty)(u w:Ty):Gt (g++[u,w]) (vT 1) u 1:=by
 refine⟨by decide,by decide,?_⟩
 rw[inf_var' _ _ (by omega),if_neg (by grind)]
 have:look (g++[u,w]) 1=look [u,w] 1:=look_right (by simp)
 simp only[show(1:Int).toNat=1 from rfl]
 rw[this];rfl
theorem Gt.cons(g:List Ty):Gt (g++[natT,listT]) consM listT 3:=by
 have h1:=(Gt.v1 g natT listT).inf
 have h0:(vT 0).inf (g++[natT,listT])=(listT,0):=by
  have:=(Gt.v0 (g++[natT]) listT).inf
  grind
 exact⟨by decide,by decide,by
  have e:consM.inf (g++[natT,listT])=(listT,0):=by simp[consM,Tm.inf,Tm.infs,rule,h0,h1]
  exact e⟩
theorem finR_of{f:Fm}{u:List Int}(he:f.err=0):∃u',finR (f,u,0)=(f,u',0):=by
 unfold finR
 simp_all
mutual
def Pf.hx(C:Int):Pf→Prop
 | .mk k i _ _ _ zs=>if k=1 then 0≤i∧i<C else Pf.hxs C zs
def Pf.hxs(C:Int):List Pf→Prop
 |[]=>True
 |p::l=>Pf.hx C p∧Pf.hxs C l
end
end Go.Ab
namespace Go.Ab
open Go
set_option linter.all false
set_option maxHeartbeats 1000000
inductive FP:Fm→Fm→Prop
 |refl (f):FP f f
 |eq {a b b'} (h:Pst b b'):FP (eqF a b) (eqF a b')
 |two {k a a' b b'} (ha:FP a a') (hb:FP b b'):FP (twoF k a b) (twoF k a' b')
 |qu {k s a a'} (ha:FP a a'):FP (quF k s a) (quF k s a')
def arg(f:Fm)(i:Nat):Fm:=f.args.getD i noFm
theorem false_err:falseF.err=0:=by decide
def Tw:Nat→Nat→Fm→Prop
 |0,L,f=>∃s t,f=eqF s t∧f.size≤L
 |n+1,L,f=>(∃s t,f=eqF s t∧f.size≤L)∨(∃k a b,(k=2∨k=3)∧f=twoF k a b∧Tw n L a∧Tw n L b)∨∃k s a,(4≤k∧k≤7)∧s.small∧f=quF k s a∧Tw n L a
theorem Tw.size:∀{n L:Nat} {f:Fm},Tw n L f→f.size+1≤(L+1)*2^n
 |0,L,f,⟨s,t,e,h⟩=>by omega
 |n+1,L,f,h=>by
  have hp:1≤2^n:=Nat.one_le_two_pow
  have h2:(L+1)*2^(n+1)=2*((L+1)*2^n):=by grind
  have h3:(L+1)*1≤(L+1)*2^n:=Nat.mul_le_mul_left _ hp
  rcases h with⟨s,t,e,h⟩|⟨k,a,b,hk,e,ha,hb⟩|⟨k,s,a,hk,hs,e,ha⟩
  ·omega
  ·have h4:=ha.size
   have h5:=hb.size
   rw[e,twoF_size];omega
  ·have h4:=ha.size
   rw[e,quF_size];omega
theorem put_two{k:Int}(hk:k=2∨k=3)(a b:Fm)(i:Int)(x:Tm):(twoF k a b).put i x=twoF k (a.put i x) (b.put i x):=by
 rw[fput_at,Fm.re_eq]
 have e:upF k 0=0:=by rcases hk with rfl|rfl<;>rfl
 simp only[twoF,Fm.kind,Fm.ty,Fm.terms,Fm.args,List.map_nil,List.map_cons]
 rw[e];rfl
theorem Tw.put:∀{n L:Nat} {f:Fm},Tw n L f→f.shape=true→∀(i:Int) (x:Tm),0≤i→x.shape=true→x.size≤3→Tw n (3*L) (f.put i x)
 |0,L,f,⟨s,t,e,h⟩,hs,i,x,hi,hx,hz=>by
  have h1:=fput_size i x hx f hs 0
  have h2:(f.put i x).size=f.size+cntF i (f.tms 0)*(x.size-1):=h1
  have h3:=cntF_le_size f i
  have h4:cntF i (f.tms 0)*(x.size-1)≤f.size*2:=Nat.mul_le_mul h3 (by omega)
  subst e
  exact⟨s.re (putG (i+0) x) 0,t.re (putG (i+0) x) 0,rfl,by omega⟩
 |n+1,L,f,h,hs,i,x,hi,hx,hz=>by
  rcases h with⟨s,t,e,h⟩|⟨k,a,b,hk,e,ha,hb⟩|⟨k,s,a,hk,hsm,e,ha⟩
  ·exact Tw.up' (Tw.put (n:=0) ⟨s,t,e,h⟩ hs i x hi hx hz)
  ·subst e
   have sa:a.shape=true:=fshape_args hs (x:=a) (by simp[twoF])
   have sb:b.shape=true:=fshape_args hs (x:=b) (by simp[twoF])
   rw[put_two hk]
   exact .inr (.inl ⟨k,_,_,hk,rfl,Tw.put ha sa i x hi hx hz,Tw.put hb sb i x hi hx hz⟩)
  ·subst e
   have sa:a.shape=true:=fshape_args hs (x:=a) (by simp[quF])
   rw[put_qu (quantK_iff.2 hk)]
   exact .inr (.inr ⟨k,s,_,hk,hsm,rfl,Tw.put ha sa (i+1) x (by omega) hx hz⟩)
where
 Tw.up' {n L:Nat} {f:Fm} (h:Tw 0 L f):Tw (n+1) L f:= .inl h
structure Pg (p:Pf) (n:Nat):Prop where
 sh:p.shape=true
 sm:p.small=true
 sz:p.size≤n
theorem Pg.err{p:Pf}{n:Nat}(h:Pg p n)(hn:n≤16384):p.err=0:=(Pf.err_iff p).2 ⟨h.sh,h.sm,Nat.le_trans h.sz hn⟩
theorem Pg.of{p:Pf}(h:p.err=0):Pg p p.size:=have h1:=(Pf.err_iff p).1 h;⟨h1.1,h1.2.1,Nat.le_refl _⟩
theorem Pg.mono{p:Pf}{n m:Nat}(h:Pg p n)(hn:n≤m):Pg p m:=⟨h.sh,h.sm,Nat.le_trans h.sz hn⟩
theorem pf_size1(k i:Int)(s:Ty)(ts:List Tm)(fs:List Fm)(zs:List Pf):(Pf.mk k i s ts fs zs).size=1+(ts.map Tm.size).sum+(fs.map Fm.size).sum+(zs.map Pf.size).sum:=Pf.size_eq _
theorem Pg.all{k:Int}{p:Pf}{s:Ty}{n:Nat}(hk:k=8∨k=12)(hs:s.err=0)(hp:Pg p n):Pg (.mk k 0 s [] [] [p]) (1+n):=by
 have ho:s.ok=true:=by
  have h1:=(Ty.err_iff s).1 hs
  simp only[Ty.ok,Bool.and_eq_true,decide_eq_true_eq];exact h1
 refine⟨?_,?_,?_⟩
 ·rcases hk with rfl|rfl<;>simp[Pf.shape,Pf.shapes,Pf.head,ndP,hp.sh,ho]
 ·simp [Pf.small,Pf.smalls,hp.sm]
 ·have:=hp.sz
  simp only[pf_size1,List.map_cons,List.map_nil,List.sum_cons,List.sum_nil];omega
theorem Pg.ex{k:Int}{p:Pf}{t:Tm}{f:Fm}{n m z:Nat}(hk:k=10∨k=14)(ht:t.shape=true)(hz:t.size≤z)(hz2:z≤4096)(hf:f.shape=true)(hm:f.size≤m)(hm2:m≤4096)(hp:Pg p n):Pg (.mk k 0 (.mk 0 []) [t] [f] [p]) (1+z+m+n):=by
 refine⟨?_,?_,?_⟩
 ·rcases hk with rfl|rfl<;>simp[Pf.shape,Pf.shapes,Pf.head,ndP,hp.sh,ht,hf,Ty.isNo,Ty.kind,Ty.args]
 ·simp [Pf.small,Pf.smalls,hp.sm];omega
 ·have:=hp.sz
  simp only[pf_size1,List.map_cons,List.map_nil,List.sum_cons,List.sum_nil];omega
theorem Pg.refl{t:Tm}{n:Nat}(ht:t.shape=true)(hz:t.size≤n)(hn:n≤4096):Pg (reflP t) (1+n):=by
 have h:=Pg.of (reflP_err (s:=t) ((Tm.err_iff t).2 ⟨ht,by omega⟩))
 rw[reflP_size] at h
 exact h.mono (by omega)
def someP(f:Fm)(t:Tm)(p:Pf):Pf:= .mk 10 0 (.mk 0 []) [t] [f] [p]
theorem Pg.some{p:Pf}{t:Tm}{f:Fm}{n m z:Nat}(ht:t.shape=true)(hz:t.size≤z)(hz2:z≤4096)(hf:f.shape=true)(hm:f.size≤m)(hm2:m≤4096)(hp:Pg p n):Pg (someP f t p) (1+z+m+n):=Pg.ex (.inl rfl) ht hz hz2 hf hm hm2 hp
theorem lsum65{α:Type}(f g:α→Nat):∀l:List α,(∀x∈l,f x≤65*g x)→(l.map f).sum≤65*(l.map g).sum
 |[],_=>by simp
 |x::l,h=>by
  have h1:=h x (by simp)
  have h2:=lsum65 f g l fun y hy=>h y (by grind)
  grind
theorem pfull_le(p:Pf):p.shape=true→p.full≤65*p.size:=by
 induction p using Pf.ind with
 |h p ih=>
  intro hs
  obtain⟨h1,h2,h3,h4⟩:=pshape_parts hs
  have ht:p.ty.size≤64:=by
   have hh:=h1
   unfold Pf.head at hh
   split at hh
   ·cases hh
   ·rename_i nd _
    simp only[Bool.and_eq_true] at hh
    have h5:=hh.2
    split at h5
    ·simp only[Ty.ok,Bool.and_eq_true,decide_eq_true_eq] at h5;omega
    ·rw [Ty.no_of h5];decide
  have a1:=lsum65 Tm.full Tm.size p.terms fun t ht=>tfull_le t (h2 t ht)
  have a2:=lsum65 Fm.full Fm.size p.forms fun f hf=>ffull_le f (h3 f hf)
  have a3:=lsum65 Pf.full Pf.size p.args fun x hx=>ih x hx (h4 x hx)
  have e1:=p.full_eq
  have e2:=p.size_eq
  omega
end Go.Ab
namespace Go.Ab
open Go
set_option linter.all false
def stU(a:Int)(fs:List Tm)(n m:Nat):St:=⟨13,if m=0 then a else 0,[fs.getD (n-1-m) noTm],[]⟩
def stA(a:Int)(n m:Nat):St:=⟨14,if m=0 then(if n=0 then a else 0) else 0,[],[]⟩
def useT(a:Int)(fs:List Tm)(n m:Nat):List St:=(List.range m).map (stU a fs n)
def useP(a:Int)(n m:Nat):List St:=(List.range m).map (stA a n)
theorem useT_succ(a:Int)(fs:List Tm)(n m:Nat):useT a fs n (m+1)=useT a fs n m++[stU a fs n m]:=by simp[useT,List.range_succ]
theorem useP_succ(a:Int)(n m:Nat):useP a n (m+1)=useP a n m++[stA a n m]:=by simp[useP,List.range_succ]
def stEnd(a:Int)(n m:Nat):St:=⟨1,if m=0 then(if n=0 then a else 0) else 0,[],[]⟩
def stBring(lem:Bool)(i:Int):List St:=if lem=true then [⟨15,i,[],[]⟩] else []
def stAt(lem:Bool)(i:Int):Int:=if lem=true then 0 else i
end Go.Ab
namespace Go.Ab
set_option linter.all false
theorem sim_last{t s:Tm}(l:List Tm)(b:Int)(hb:0≤b)(ht:t.shape=true)(hs:s.shape=true):
 simT l b (t.re (putG ((l.length:Int)+b) s) 0)=simT (l++[s]) b t:=by
 simp only[simT]
 rw[re_shift0 _ b,re_re,re_shift0 _ b]
 refine re_congr t 0 fun p hp=> ?_
 have h1:=vars_snd t 0 p hp
 have h2:=t.vars_nonneg ht 0 p hp
 obtain⟨i,c⟩:=p
 simp only at h1 h2 ⊢
 rw[putG_eq]
 by_cases h3:i-c=(l.length:Int)+b
 ·rw [if_pos h3,re_shift0 _ c,re_re]
  have e:simG (l++[s]) i (c+b)=s.re (liftG 0 (c+b)) 0:=by
   simp only[simG]
   rw[if_neg (by omega),if_pos (by simp;omega)]
   rw[show(i-(c+b)).toNat=l.length by omega]
   simp[List.getD]
  rw[e]
  refine re_congr s 0 fun q hq=> ?_
  obtain⟨j,d⟩:=q
  have h4:=vars_snd s 0 _ hq
  simp only[liftG_eq,re_vT] at h4 ⊢
  by_cases h5:j-d≥0
  ·rw [if_pos h5,if_pos h5]
   simp only[simG]
   rw[if_neg (by omega),if_neg (by omega)]
   congr 1;omega
  ·rw [if_neg h5,if_neg h5]
   simp only[simG]
   rw[if_pos (by omega)]
 ·rw [if_neg h3,re_vT]
  by_cases h4:i-c>(l.length:Int)+b
  ·rw [if_pos h4]
   simp only[simG]
   rw[if_neg (show ¬i-1<c+b by omega),if_neg (show ¬i<c+b by omega),if_neg (by omega),if_neg (by simp;omega)]
   congr 1;simp;omega
  ·rw [if_neg h4]
   simp only[simG]
   by_cases h5:i<c+b
   ·rw [if_pos h5,if_pos h5]
   ·rw [if_neg h5,if_neg h5,if_pos (by omega),if_pos (by simp;omega)]
    congr 1
    simp only[List.getD]
    rw[List.getElem?_append_left (by omega)]
theorem Fm.sim_last{f:Fm}{s:Tm}(l:List Tm)(hf:f.shape=true)(hs:s.shape=true):(f.put l.length s).sim l 0=f.sim (l++[s]) 0:=by
 simp only[Fm.put,Fm.sim]
 rw[Fm.re_re]
 exact Fm.re_congr f 0 fun p hp=>Go.Ab.sim_last l p.2 (tms_snd p hp) (tms_shape f hf 0 p hp) hs
def allN:Nat→Fm→Fm
 |0,f=>f
 |n+1,f=>quF 4 natT (allN n f)
theorem allN_put(s:Tm):∀(n:Nat) (at_:Int) (f:Fm),(allN n f).put at_ s=allN n (f.put (at_+n) s)
 |0,at_,f=>by simp[allN]
 |n+1,at_,f=>by
  have ih:=allN_put s n (at_+1) f
  rw[show at_+1+(n:Int)=at_+((n+1:Nat):Int) by omega] at ih
  simp only[allN]
  rw[←ih]
  simp only[Fm.put,quF]
  rw[Fm.re_eq]
  simp only[Fm.kind_mk,Fm.ty_mk,Fm.terms_mk,Fm.args_mk,List.map_nil,List.map_cons]
  rw[show upF 4 0=1 by decide]
  congr 2
  have key:∀(f:Fm) (b c:Int),f.re (fun b t=>t.re (putG (at_+b) s) 0) (b+c)=f.re (fun b t=>t.re (putG (at_+c+b) s) 0) b:=by
   intro f
   induction f using Fm.ind with
   |h f ih=>
    intro b c
    rw[Fm.re_eq,Fm.re_eq]
    have hu:upF f.kind (b+c)=upF f.kind b+c:=by simp only[upF];split<;>omega
    rw[hu]
    congr 1
    ·exact List.map_congr_left fun x _=>by rw[show at_+(b+c)=at_+c+b by omega]
    ·exact List.map_congr_left fun x hx=>ih x hx _ _
  have:=key (allN n f) 0 1
  rw[Int.zero_add] at this
  exact this
def insts:List Tm→Fm→Fm
 |[],f=>f
 |s::l,f=>insts l (f.put l.length s)
theorem insts_sim:∀(l:List Tm) (f:Fm),f.shape=true→(∀s∈l,s.shape=true)→insts l f=f.sim l.reverse 0
 |[],f,hf,_=>by simp only[insts,List.reverse_nil];exact(Fm.sim_nil hf).symm
 |s::l,f,hf,hs=>by
  have h1:=hs s (by simp)
  have ih:=insts_sim l (f.put l.length s) (fput_shape (by omega) h1 hf) fun x hx=>hs x (by simp[hx])
  simp only[insts]
  rw[ih,List.reverse_cons]
  have:=Fm.sim_last (f:=f) (s:=s) l.reverse hf h1
  rw[List.length_reverse] at this
  exact this
theorem allN_step(n:Nat)(s:Tm)(f:Fm):(allN n f).put 0 s=allN n (f.put n s):=by
 have:=allN_put s n 0 f
 rwa [Int.zero_add] at this
theorem fill_fits(n:Int)(B c:Nat):∀(l:List Tm) (k:Int) (f:Fm),n=k+l.length→l.length≤4096→f.err=0→(∀s∈l,fine s∧s.size≤B+1)→
 (∀j:Nat,j<l.length→cntF j (f.tms 0)≤c)→f.size+l.length*(c*B)≤4096→(fillF n l k f).2≠4
 |[],k,f,_,_,_,_,_,_=>by simp[fillF]
 |t::l,k,f,hn,h4,hf,hl,hc,hz=>by
  simp only[List.length_cons] at hn h4 hz
  have e:n-1-k=l.length:=by omega
  obtain⟨ft,zt⟩:=hl t (by simp)
  obtain⟨a1,a2,a3⟩:=fine_lift ft l.length (by omega)
  have hsh:=(err_zero ft.1).1
  have hsf:=((Fm.err_iff f).1 hf).1
  simp only[fillF,e]
  rw[if_neg (by simp[a1])]
  have hsz:(t.re (liftG 0 (l.length:Int)) 0).size=t.size:=lift_size _ _ _ _ hsh
  have h0:=hc 0 (by simp)
  have hs0:cntF 0 (f.tms 0)*(t.size-1)≤c*B:=Nat.mul_le_mul (by simpa using h0) (by omega)
  have hm:(l.length+1)*(c*B)=l.length*(c*B)+c*B:=by rw[Nat.add_mul,Nat.one_mul]
  rw[hm] at hz
  have htp:=t.size_pos
  have hcast:((cntF 0 (f.tms 0)*(t.size-1):Nat):Int)=(cntF 0 (f.tms 0):Int)*((t.size:Int)-1):=by
   rw[Int.natCast_mul,Int.natCast_sub htp];rfl
  by_cases h2:putFErr f 0 (t.re (liftG 0 (l.length:Int)) 0)≠0
  ·rw [if_pos h2]
   simp only[putFErr]
   rw[if_neg (by simp[hf]),if_neg (by omega),if_neg (by simp[a2])]
   split
   ·simp
   ·rw [if_neg (by rw[hsz];omega)];simp
  ·rw [if_neg h2]
   have hsl:(t.re (liftG 0 (l.length:Int)) 0).shape=true:=lift_shape 0 hsh (by omega)
   have h2':=Classical.not_not.1 h2
   refine fill_fits n B c l (k+1) _ (by omega) (by omega) (putF_err (by omega) h2') (fun s hs=>hl s (by simp[hs])) (fun j hj=> ?_) ?_
   ·rw [cntF_put hsf hsh (by omega) (by omega)]
    have:=hc (j+1) (by simp;omega)
    simpa using this
   ·have h6:=fput_size 0 _ hsl f hsf 0
    rw[hsz] at h6
    show(f.re _ 0).size+_≤4096
    rw[h6]
    omega
theorem inf_vars0(t:Tm):∀(g:List Ty) (b:Int),(t.inf g).2=0→t.shape=true→∀p∈t.vars b,p.1-(p.2-b)<g.length:=by
 induction t using Tm.ind with
 |h t ih=>
  intro g b h hs p hp
  rw[Tm.inf_eq] at h
  rw[t.vars_eq,List.mem_append] at hp
  by_cases h1:t.kind=1
  ·have hargs:t.args=[]:=by
    have:=arK_len hs
    rw[h1] at this
    exact List.eq_nil_of_length_eq_zero (Option.some.inj this).symm
   rw[if_pos h1] at h hp
   simp only[hargs,List.flatMap_nil,List.not_mem_nil,or_false,List.mem_cons,or_false] at hp
   subst hp
   by_cases h2:t.index≥(g.length:Int)
   ·rw [if_pos h2] at h;exact absurd h (by simp)
   ·simp only;omega
  ·rw [if_neg h1] at h hp
   simp only[List.not_mem_nil,false_or] at hp
   obtain⟨x,hx,hp⟩:=List.mem_flatMap.1 hp
   by_cases h2:t.kind=2
   ·rw [if_pos h2] at h
    by_cases h3:(Tm.infs (g++[t.ty]) t.args).2=0
    ·have:=ih x hx (g++[t.ty]) _ (Tm.infs_all _ _ h3 x hx) (shape_args hs x hx) p hp
     have e:up t.kind b=b+1:=if_pos h2
     rw[e] at this
     simp at this;omega
    ·rw [if_pos h3] at h;exact absurd h h3
   ·rw [if_neg h2] at h
    by_cases h3:(Tm.infs g t.args).2=0
    ·have:=ih x hx g _ (Tm.infs_all _ _ h3 x hx) (shape_args hs x hx) p hp
     rw[up_ne h2] at this;exact this
    ·rw [if_pos h3] at h;exact absurd h h3
def fun3:Ty:=funT natT (funT natT natT)
theorem fun3_small:fun3.small5:=⟨by decide,by decide⟩
theorem tn_fun3(d:Dk):G5 4 [] fun3 (Dk.tn 4 d [] fun3).1:=Dk.tn_g5 4 d [] fun3 smalls5_nil fun3_small (by decide)
def epL:Nat→Dk→List Ty→List Tm×Dk
 |0,d,_=>([],d)
 |n+1,d,g=>((epL n d g).1++[(Dk.tm 4 (epL n d g).2 g natT).1],(Dk.tm 4 (epL n d g).2 g natT).2)
def epS:Nat→Dk→Tm×Dk
 |0,d=>(vT 0,d)
 |n+1,d=>(apT (apT (Dk.tn 4 (epS n d).2 [] fun3).1 (epS n d).1) (vT ((n:Int)+1)),(Dk.tn 4 (epS n d).2 [] fun3).2)
theorem epL_len:∀(n:Nat) (d:Dk) (g:List Ty),(epL n d g).1.length=n
 |0,_,_=>rfl
 |n+1,d,g=>by simp[epL,epL_len n d g]
theorem epL_mk{g:List Ty}(hg:smalls g):∀(n:Nat) (d:Dk),∀s∈(epL n d g).1,Mk 4 g natT s
 |0,d,s,h=>by simp[epL] at h
 |n+1,d,s,h=>by
  simp only[epL,List.mem_append,List.mem_singleton] at h
  rcases h with h|rfl
  ·exact epL_mk hg n d s h
  ·exact Dk.tm_mk 4 _ g natT hg small_nat (by omega) (by omega)
theorem epL_ok{g:List Ty}:∀(n:Nat) (d:Dk),d.ok→(epL n d g).2.ok
 |0,d,h=>h
 |n+1,d,h=>Dk.tm_ok 4 _ g natT (epL_ok n d h)
theorem epS_ok:∀(n:Nat) (d:Dk),d.ok→(epS n d).2.ok
 |0,d,h=>h
 |n+1,d,h=>Dk.tn_ok 4 _ [] fun3 (epS_ok n d h)
theorem epS_shape:∀(n:Nat) (d:Dk),(epS n d).1.shape=true∧(epS n d).1.size≤1+649*n
 |0,d=>⟨shape_vT 0 (by omega),by simp[epS,vT,Tm.size,Tm.sizes]⟩
 |n+1,d=>by
  obtain⟨h1,h2⟩:=epS_shape n d
  have hm:=tn_fun3 (epS n d).2
  have h4:=hm.size
  refine⟨apT_shape (apT_shape hm.shape h1) (shape_vT _ (by omega)),?_⟩
  simp only[epS,apT,vT,Tm.size,Tm.sizes]
  omega
theorem epS_inf{g:List Ty}(hg:smalls g)(m:Nat):∀(n:Nat) (d:Dk),n<m→(epS n d).1.inf (g++List.replicate m natT)=(natT,0)
 |0,d,h=>by
  have hl:(g++List.replicate m natT).length=g.length+m:=by simp
  simp only[epS]
  rw[Tm.inf_eq,if_pos (show(vT 0).kind=1 from rfl)]
  rw[if_neg (by show ¬(0:Int)≥_;rw[hl];omega)]
  have:at0 (g++List.replicate m natT) ((g++List.replicate m natT).length-1-(vT 0).index.toNat)=natT:=by
   unfold at0
   rw[List.getD_eq_getElem?_getD,hl,List.getElem?_append_right (by show g.length≤g.length+m-1-0;omega)]
   rw[List.getElem?_replicate,if_pos (by show g.length+m-1-0-g.length<m;omega)]
   rfl
  rw[this]
 |n+1,d,h=>by
  have ih:=epS_inf hg m n d (by omega)
  have hm:=tn_fun3 (epS n d).2
  have h1:(Dk.tn 4 (epS n d).2 [] fun3).1.inf (g++List.replicate m natT)=(fun3,0):=by
   have:=inf_weak (g++List.replicate m natT) hm.shape (by rw[hm.inf])
   rw[List.append_nil] at this
   rw[this,hm.inf]
  have hl:(g++List.replicate m natT).length=g.length+m:=by simp
  have hv:(vT ((n:Int)+1)).inf (g++List.replicate m natT)=(natT,0):=by
   rw[Tm.inf_eq,if_pos (show(vT ((n:Int)+1)).kind=1 from rfl)]
   rw[if_neg (by show ¬((n:Int)+1)≥_;rw[hl];omega)]
   have:at0 (g++List.replicate m natT) ((g++List.replicate m natT).length-1-(vT ((n:Int)+1)).index.toNat)=natT:=by
    have e:(vT ((n:Int)+1)).index.toNat=n+1:=by show((n:Int)+1).toNat=n+1;omega
    unfold at0
    rw[List.getD_eq_getElem?_getD,hl,e,List.getElem?_append_right (by omega)]
    rw[List.getElem?_replicate,if_pos (by omega)]
    rfl
   rw[this]
  simp only[epS]
  exact inf_app (inf_app h1 ih) hv
theorem cl_cnt{t:Tm}{g:List Ty}(hi:(t.inf g).2=0)(hs:t.shape=true)(j:Int)(hj:(g.length:Int)≤j):cnt j (t.vars 0)=0:=by
 unfold cnt
 rw[List.length_eq_zero_iff,List.filter_eq_nil_iff]
 intro p hp
 have:=inf_vars0 t g 0 hi hs p hp
 simp;omega
theorem epS_cnt:∀(n:Nat) (d:Dk) (j:Nat),cnt j ((epS n d).1.vars 0)=if j≤n then 1 else 0
 |0,d,j=>by
  simp only[epS]
  rw[cnt_vT]
  by_cases h:j=0
  ·rw [if_pos (by omega),if_pos (by omega)]
  ·rw [if_neg (by omega),if_neg (by omega)]
 |n+1,d,j=>by
  have ih:=epS_cnt n d j
  have hm:=tn_fun3 (epS n d).2
  have h1:=cl_cnt (by rw[hm.inf]) hm.shape (j:Int) (by simp)
  simp only[epS]
  rw[cnt_apT,cnt_apT,h1,ih,cnt_vT]
  by_cases h:j≤n
  ·rw [if_pos h,if_neg (by omega),if_pos (by omega)]
  ·by_cases h':j=n+1
   ·rw [if_neg h,if_pos (by omega),if_pos (by omega)]
   ·rw [if_neg h,if_neg (by omega),if_neg (by omega)]
theorem cnt_putM{t s:Tm}{m j b:Int}(ht:t.shape=true)(hs:s.shape=true)(hb:0≤b)(hj:0≤j)(hm:j<m):
 cnt (j+b) ((t.re (putG (m+b) s) 0).vars 0)=cnt (j+b) (t.vars 0):=by
 rw[vars_re _ _ _ ht]
 refine cnt_flat _ fun p hp=> ?_
 have h1:=vars_snd t 0 p hp
 obtain⟨i,c⟩:=p
 simp only at h1 ⊢
 rw[putG_eq,cnt_one]
 by_cases h3:i-c=m+b
 ·rw [if_pos h3,cnt_shift,cnt_lift_no hs _ _ (by omega) (by omega),if_neg (by omega)]
 ·rw [if_neg h3,vars_vT,cnt_one]
  grind
theorem cntF_putM{f:Fm}{s:Tm}{m j:Int}(hf:f.shape=true)(hs:s.shape=true)(hj:0≤j)(hm:j<m):cntF j ((f.put m s).tms 0)=cntF j (f.tms 0):=by
 rw[Fm.put,tms_re]
 exact cntF_mapG (G:=fun b t=>t.re (putG (m+b) s) 0) _ fun p hp=>cnt_putM (tms_shape f hf 0 p hp) hs (tms_snd p hp) hj hm
theorem allN_tms(f:Fm)(a:Int):∀m:Nat,cntF a ((allN m f).tms 0)=cntF (a+m) (f.tms 0)
 |0=>by simp[allN]
 |m+1=>by
  have ih:=allN_tms f (a+1) m
  have h1:(allN (m+1) f).tms 0=(allN m f).tms 1:=by
   rw[Fm.tms_eq]
   show List.map _ []++List.flatMap _ [allN m f]=_
   simp[upF];rfl
  have h2:=cntF_shift a (allN m f) 0 1
  rw[h1]
  rw[Int.zero_add] at h2
  rw[h2,ih]
  congr 1;omega
theorem allN_shape(f:Fm)(hf:f.shape=true):∀m:Nat,(allN m f).shape=true
 |0=>hf
 |m+1=>qu_shape_iff (by omega) rfl (allN_shape f hf m)
theorem allN_size(f:Fm):∀m:Nat,(allN m f).size=m+f.size
 |0=>by simp[allN]
 |m+1=>by
  have:=allN_size f m
  rw[Fm.size_eq]
  simp[allN,quF,this];omega
theorem allN_okT(f:Fm):∀(m:Nat) (g:List Ty),f.okT (g++List.replicate m natT)→(allN m f).okT g
 |0,g,h=>by simpa [allN] using h
 |m+1,g,h=>fokT_qu (by omega) (allN_okT f m (g++[natT]) (by rw[List.append_assoc];exact h))
structure Ch (g:List Ty) (r:List Tm) (b:Fm):Prop where
 sh:b.shape=true
 ok:b.okT (g++List.replicate r.length natT)
 sz:b.size+r.length*400+20≤4096
 occ:∀j:Nat,j<r.length→cntF j (b.tms 0)≤4
 tm:∀s∈r,s.shape=true∧s.size≤100∧s.inf g=(natT,0)
 hg:ctxErr g=0
 hl:g.length≤13
theorem Ch.err{g:List Ty}{r:List Tm}{b:Fm}(h:Ch g r b):(allN r.length b).err=0∧(allN r.length b).okT g:=by
 refine⟨(Fm.err_iff _).2 ⟨allN_shape b h.sh _,?_⟩,allN_okT b _ g h.ok⟩
 rw[allN_size];have:=h.sz;omega
theorem Ch.step{g:List Ty}{r:List Tm}{b:Fm}{s:Tm}(h:Ch g (s::r) b):Ch g r (b.put r.length s)∧putFErr (allN r.length b) 0 s=0∧(allN r.length b).put 0 s=allN r.length (b.put r.length s):=by
 obtain⟨a1,a2,a3⟩:=h.tm s (by simp)
 have h0:=h.occ r.length (by simp)
 have hz:=h.sz
 have hl:=h.hl
 simp only[List.length_cons] at hz h0
 have hs0:cntF r.length (b.tms 0)*(s.size-1)≤4*99:=Nat.mul_le_mul h0 (by omega)
 have hp:=s.size_pos
 have se:s.err=0:=(Tm.err_iff s).2 ⟨a1,by omega⟩
 refine⟨⟨fput_shape (by omega) a1 h.sh,?_,?_,fun j hj=> ?_,fun x hx=>h.tm x (by simp[hx]),h.hg,h.hl⟩,?_,allN_step _ _ _⟩
 ·have:=fokT_put r.length s g natT a1 a3 b (List.replicate r.length natT) 0 (by simp) h.sh (by
   have:=h.ok
   rw[List.length_cons,List.replicate_succ] at this
   rw[List.append_assoc];exact this)
  exact this
 ·have h6:=fput_size r.length s a1 b h.sh 0
  have h7:(b.put r.length s).size=b.size+cntF r.length (b.tms 0)*(s.size-1):=h6
  rw[h7];omega
 ·rw [cntF_putM h.sh a1 (by omega) (by omega)]
  exact h.occ j (by simp;omega)
 ·have e1:(allN r.length b).err=0:=(Fm.err_iff _).2 ⟨allN_shape b h.sh _,by rw[allN_size];omega⟩
  have o1:(allN r.length b).okT (g++[natT]):=allN_okT b _ _ (by
   have:=h.ok
   rw[List.length_cons,List.replicate_succ] at this
   rw[List.append_assoc];exact this)
  have hn:=fokT_near o1 e1 (by simp;omega)
  have sn:s.near=true:=near_of (by rw[a3]) a1 (by omega)
  unfold putFErr
  rw[if_neg (by simp[e1]),if_neg (by omega),if_neg (by simp[se]),if_neg (by simp[hn.1,sn]),allN_tms,allN_size,Int.zero_add]
  have hcast:((cntF r.length (b.tms 0)*(s.size-1):Nat):Int)=(cntF r.length (b.tms 0):Int)*((s.size:Int)-1):=by
   rw[Int.natCast_mul,Int.natCast_sub hp];rfl
  rw[if_neg (by omega)]
theorem Ch.insts{g:List Ty}:∀{r:List Tm} {b:Fm},Ch g r b→(insts r b).err=0∧(insts r b).okT g
 |[],b,h=>by have:=h.err;exact this
 |s::r,b,h=>Ch.insts (r:=r) h.step.1
def useW:Int→List Tm→Fm→Pf
 |i,[],_=>hypP i
 |i,s::r,b=> .mk 7 0 (.mk 0 []) [] [] [.mk 6 0 (.mk 0 []) [] [allN r.length (b.put r.length s)] [useW 0 r (b.put r.length s)],.mk 9 0 (.mk 0 []) [s] [] [hypP i]]
theorem hypP_shape(i:Int)(hi:0≤i):(hypP i).shape=true∧(hypP i).small=true∧(hypP i).size=1:=by
 refine⟨?_,rfl,rfl⟩
 have:(hypP i).head=true:=by
  show(true&&true&&true&&decide (0≤i)&&true&&true)=true
  simp[hi]
 rw[Pf.shape_eq,this];rfl
theorem useN_shape{B:Fm}{p q:Pf}{s:Tm}(hB:B.shape=true)(hp:p.shape=true)(hq:q.shape=true)(hs:s.shape=true):
 (Pf.mk 7 0 (.mk 0 []) [] [] [.mk 6 0 (.mk 0 []) [] [B] [p],.mk 9 0 (.mk 0 []) [s] [] [q]]).shape=true:=by
 have h6:(Pf.mk 6 0 (.mk 0 []) [] [B] [p]).shape=true:=by
  rw[Pf.shape_eq]
  show(true&&true&&([B].all Fm.shape)&&([p].all Pf.shape))=true
  simp[hB,hp]
 have h9:(Pf.mk 9 0 (.mk 0 []) [s] [] [q]).shape=true:=by
  rw[Pf.shape_eq]
  show(true&&([s].all Tm.shape)&&true&&([q].all Pf.shape))=true
  simp[hs,hq]
 rw[Pf.shape_eq]
 show(true&&true&&true&&([Pf.mk 6 0 (.mk 0 []) [] [B] [p],Pf.mk 9 0 (.mk 0 []) [s] [] [q]].all Pf.shape))=true
 simp[h6,h9]
theorem useN_small{B:Fm}{p q:Pf}{s:Tm}(hB:B.size≤4096)(hp:p.small=true)(hq:q.small=true)(hs:s.size≤4096):
 (Pf.mk 7 0 (.mk 0 []) [] [] [.mk 6 0 (.mk 0 []) [] [B] [p],.mk 9 0 (.mk 0 []) [s] [] [q]]).small=true:=by
 have h6:(Pf.mk 6 0 (.mk 0 []) [] [B] [p]).small=true:=by
  rw[Pf.small_eq]
  show(true&&([B].all (fun f=>decide (f.size≤4096)))&&([p].all Pf.small))=true
  simp[hB,hp]
 have h9:(Pf.mk 9 0 (.mk 0 []) [s] [] [q]).small=true:=by
  rw[Pf.small_eq]
  show(([s].all (fun t=>decide (t.size≤4096)))&&true&&([q].all Pf.small))=true
  simp[hs,hq]
 rw[Pf.small_eq]
 show(true&&true&&([Pf.mk 6 0 (.mk 0 []) [] [B] [p],Pf.mk 9 0 (.mk 0 []) [s] [] [q]].all Pf.small))=true
 simp[h6,h9]
theorem useN_size(B:Fm)(p q:Pf)(s:Tm):(Pf.mk 7 0 (.mk 0 []) [] [] [.mk 6 0 (.mk 0 []) [] [B] [p],.mk 9 0 (.mk 0 []) [s] [] [q]]).size=3+B.size+p.size+s.size+q.size:=by
 simp only[Pf.size,Pf.sizes,List.map_cons,List.map_nil,List.sum_cons,List.sum_nil];omega
theorem useW_ok{g:List Ty}:∀(r:List Tm) (b:Fm) (i:Int),Ch g r b→0≤i→(useW i r b).shape=true∧(useW i r b).small=true∧(useW i r b).size≤1+4200*r.length
 |[],b,i,h,hi=>by
  obtain⟨h1,h2,h3⟩:=hypP_shape i hi
  exact⟨h1,h2,by show(hypP i).size≤_;omega⟩
 |s::r,b,i,h,hi=>by
  obtain⟨h1,h2,h3⟩:=useW_ok r (b.put r.length s) 0 h.step.1 (by omega)
  obtain⟨a1,a2,a3⟩:=h.tm s (by simp)
  obtain⟨q1,q2,q3⟩:=hypP_shape i hi
  have e2:=(Fm.err_iff _).1 h.step.1.err.1
  refine⟨useN_shape e2.1 h1 q1 a1,useN_small e2.2 h2 q2 (by omega),?_⟩
  show(Pf.mk 7 0 (.mk 0 []) [] [] _).size≤_
  rw[useN_size]
  simp only[List.length_cons]
  omega
theorem inf_hyp{c:Ck}{i:Nat}{f:Fm}(hi:i<c.hyps.length)(hh:c.hyps.getD (c.hyps.length-1-i) noFm=f)(hf:f.err=0):∃us,infP (hypP i) c=(f,us,0):=by
 have e:infP (hypP i) c=finR (hypR c i):=by rw[infP_eq];rfl
 rw[e]
 unfold hypR
 rw[if_neg (by omega)]
 simp only[Int.toNat_natCast]
 rw[hh]
 exact finR_of hf
theorem inf_at9{c:Ck}{q:Pf}{A B:Fm}{s:Tm}{u:List Int}(hq:infP q c=(quF 4 natT A,u,0))(hs:typeOf c.tys s=(natT,0))(hk:putK A s=(B,0))(hB:B.err=0):∃us,infP (.mk 9 0 (.mk 0 []) [s] [] [q]) c=(B,us,0):=by
 have e:infP (.mk 9 0 (.mk 0 []) [s] [] [q]) c=finR (atR 9 s (infP q) c):=by rw[infP_eq];rfl
 unfold atR at e
 rw[hs,hq] at e
 have k1:kI 9 13 6 4=4:=rfl
 have k2:(quF 4 natT A).kind=4:=rfl
 have k3:(quF 4 natT A).ty=natT:=rfl
 have k4:(quF 4 natT A).args.getD 0 noFm=A:=rfl
 simp only[k1,k2,k3,k4,hk] at e
 rw[if_neg (by simp),if_neg (by simp),if_neg (by simp),if_neg (by simp)] at e
 rw[e]
 exact finR_of hB
theorem inf_imp6{c:Ck}{p:Pf}{B x:Fm}{u:List Int}(hB:typedFC c.tys B=0)(hr:c.room 0 1=0)(hp:infP p (c.with_ B)=(x,u,0)):(∃us,infP (.mk 6 0 (.mk 0 []) [] [B] [p]) c=(twoF 3 B x,us,0))∨infP (.mk 6 0 (.mk 0 []) [] [B] [p]) c=noRes 4:=by
 have e:infP (.mk 6 0 (.mk 0 []) [] [B] [p]) c=finR (impiR B (infP p) c):=by rw[infP_eq];rfl
 unfold impiR at e
 rw[hB,if_neg (by simp),if_neg (by simp[hr]),hp] at e
 by_cases h4:(twoF 3 B x).err=0
 ·left;rw[e];exact finR_of h4
 ·right;rw[e];unfold finR;rw[if_neg (by simp),if_pos h4]
theorem inf_imp6e{c:Ck}{p:Pf}{B:Fm}(hB:typedFC c.tys B=0)(hr:c.room 0 1=0)(hp:infP p (c.with_ B)=noRes 4):infP (.mk 6 0 (.mk 0 []) [] [B] [p]) c=noRes 4:=by
 have e:infP (.mk 6 0 (.mk 0 []) [] [B] [p]) c=finR (impiR B (infP p) c):=by rw[infP_eq];rfl
 unfold impiR at e
 rw[hB,if_neg (by simp),if_neg (by simp[hr]),hp] at e
 rw[e];rfl
theorem inf_use7{c:Ck}{p q:Pf}{B x:Fm}{u v:List Int}(hp:infP p c=(twoF 3 B x,u,0))(hq:infP q c=(B,v,0))(hB:B.err=0)(hx:x.err=0):∃us,infP (.mk 7 0 (.mk 0 []) [] [] [p,q]) c=(x,us,0):=by
 have e:infP (.mk 7 0 (.mk 0 []) [] [] [p,q]) c=finR (impeR (infP p) (infP q) c):=by rw[infP_eq];rfl
 unfold impeR at e
 have k1:(twoF 3 B x).kind=3:=rfl
 have k2:(twoF 3 B x).args.getD 0 noFm=B:=rfl
 have k3:(twoF 3 B x).args.getD 1 noFm=x:=rfl
 rw[hp,hq] at e
 simp only[k1,k2,k3,mtchF_refl hB] at e
 rw[if_neg (by simp),if_neg (by simp),if_neg (by simp)] at e
 rw[e]
 exact finR_of hx
theorem inf_use7e{c:Ck}{p q:Pf}(hp:infP p c=noRes 4):infP (.mk 7 0 (.mk 0 []) [] [] [p,q]) c=noRes 4:=by
 have e:infP (.mk 7 0 (.mk 0 []) [] [] [p,q]) c=finR (impeR (infP p) (infP q) c):=by rw[infP_eq];rfl
 unfold impeR at e
 rw[hp,if_pos (by simp[noRes])] at e
 rw[e];rfl
theorem useW_inf(r:List Tm):∀(b:Fm) (i:Nat) (c:Ck),c.ok→Ch c.tys r b→i<c.hyps.length→c.hyps.getD (c.hyps.length-1-i) noFm=allN r.length b→c.hyps.length+r.length≤16→
 (∃us,infP (useW i r b) c=(insts r b,us,0))∨infP (useW i r b) c=noRes 4:=by
 induction r with
 |nil=>
  intro b i c hc h hi hh hr
  exact .inl (inf_hyp (f:=b) hi hh (by have:=h.err.1;exact this))
 |cons s r ihr=>
  intro b i c hc h hi hh hr
  obtain⟨st,pe,pq⟩:=h.step
  obtain⟨a1,a2,a3⟩:=h.tm s (by simp)
  have he:=st.err
  simp only[List.length_cons] at hr
  have hw:(c.with_ (allN r.length (b.put r.length s))).ok:=by
   refine⟨hc.ctx,by simp[Ck.with_];omega,hc.nl,fun f hf=> ?_,hc.lems⟩
   rcases List.mem_append.1 hf with hf|hf
   ·exact hc.hyps f hf
   ·rw [List.mem_singleton.1 hf];exact he
  have ih:=ihr (b.put r.length s) 0 (c.with_ (allN r.length (b.put r.length s))) hw st (by simp[Ck.with_]) (by simp[Ck.with_,List.getD]) (by simp[Ck.with_];omega)
  have hi2:=st.insts
  have hr1:c.room 0 1=0:=by unfold Ck.room;rw[if_neg (by have:=hc.len;omega)]
  have tB:=okT_typedFC he.2 he.1 hc.ctx
  have ht:typeOf c.tys s=(natT,0):=by
   have se:s.err=0:=(Tm.err_iff s).2 ⟨a1,by omega⟩
   unfold typeOf typed
   rw[if_neg (by simp[hc.ctx]),if_neg (by simp[se]),a3]
  have hk:putK (allN r.length b) s=(allN r.length (b.put r.length s),0):=by
   unfold putK
   rw[pe,if_pos rfl,pq]
  obtain⟨u1,h1⟩:=inf_hyp hi hh h.err.1
  obtain⟨us,hat⟩:=inf_at9 (A:=allN r.length b) h1 ht hk he.1
  rcases ih with⟨u2,ih⟩|ih
  ·rcases inf_imp6 tB hr1 ih with⟨u3,h6⟩|h6
   ·exact .inl (inf_use7 h6 hat he.1 hi2.1)
   ·exact .inr (inf_use7e h6)
  ·exact .inr (inf_use7e (inf_imp6e tB hr1 ih))
theorem smalls_rep{g:List Ty}(hg:smalls g)(m:Nat):smalls (g++List.replicate m natT):=smalls_app hg fun x hx=>by rw[(List.mem_replicate.1 hx).2];exact small_nat
def epR(n:Nat)(d:Dk)(g:List Ty):Tm×Dk:=Dk.tm 3 d (g++List.replicate n natT) natT
def epB(n:Nat)(d:Dk)(g:List Ty):Fm:=eqF (epS (n-1) (epL n d g).2).1 (epR n (epS (n-1) (epL n d g).2).2 g).1
theorem eqF_cnt(a b:Tm)(j:Int):cntF j ((eqF a b).tms 0)=cnt j (a.vars 0)+cnt j (b.vars 0):=by
 rw[Fm.tms_eq]
 show cntF j ([(a,0),(b,0)]++[])=_
 simp[cntF]
theorem epB_ch{g:List Ty}(hg:smalls g)(hl:g.length≤3){n:Nat}(hn:1≤n∧n≤3)(d:Dk):
 Ch g (epL n d g).1.reverse (epB n d g)∧∀k:Nat,k<n→cntF k ((epB n d g).tms 0)≠0:=by
 have hlen:=epL_len n d g
 obtain⟨s1,s2⟩:=epS_shape (n-1) (epL n d g).2
 have i3:=epS_inf hg n (n-1) (epL n d g).2 (by omega)
 have hr:=Dk.tm_mk 3 (epS (n-1) (epL n d g).2).2 (g++List.replicate n natT) natT (smalls_rep hg n) small_nat (by omega) (by omega)
 have r1:=hr.shape (smalls_rep hg n) small_nat
 have r2:=(hr.size (smalls_rep hg n) small_nat).1
 have z3:s3 3=24:=rfl
 have z4:s3 4=76:=rfl
 have r3:=hr.inf (smalls_rep hg n) small_nat
 have hcnt:∀j:Nat,j<n→cntF j ((epB n d g).tms 0)=1+cnt (j:Int) ((epR n (epS (n-1) (epL n d g).2).2 g).1.vars 0):=fun j hj=>by
  rw[epB,eqF_cnt,epS_cnt,if_pos (by omega)]
 refine⟨⟨?_,?_,?_,fun j hj=> ?_,fun s hs=> ?_,ctxErr_ok hg (by omega),by omega⟩,fun k hk=>by rw[hcnt k hk];omega⟩
 ·exact eqF_shape s1 r1
 ·rw [List.length_reverse,hlen]
  exact eq_okT.2 ⟨i3,r3⟩
 ·rw [List.length_reverse,hlen]
  have e:(epB n d g).size=1+((epS (n-1) (epL n d g).2).1.size+(epR n (epS (n-1) (epL n d g).2).2 g).1.size):=by
   rw[Fm.size_eq];simp[epB,eqF]
  rw[e]
  have:(epR n (epS (n-1) (epL n d g).2).2 g).1.size≤s3 3:=r2
  omega
 ·rw [List.length_reverse,hlen] at hj
  rw[hcnt j hj]
  have h1:=(hr.cnt (smalls_rep hg n) small_nat (at_:=(j:Int)) (by omega) 0 (by omega)).2 rfl
  have h2:c1 3=3:=rfl
  have:cnt (j:Int) ((epR n (epS (n-1) (epL n d g).2).2 g).1.vars 0)≤c1 3:=h1
  omega
 ·have hm:=epL_mk hg n d s (List.mem_reverse.1 hs)
  exact⟨hm.shape hg small_nat,by have:=(hm.size hg small_nat).1;omega,hm.inf hg small_nat⟩
theorem ep_all{g:List Ty}(hg:smalls g)(hl:g.length≤3){n:Nat}(hn:1≤n∧n≤3)(d:Dk):
 (fill (epB n d g) (epL n d g).1).2=0∧(fill (epB n d g) (epL n d g).1).1.err=0∧(fill (epB n d g) (epL n d g).1).1.okT g∧
 matchF (epB n d g) n (fill (epB n d g) (epL n d g).1).1=((epL n d g).1,0)∧insts (epL n d g).1.reverse (epB n d g)=(fill (epB n d g) (epL n d g).1).1:=by
 obtain⟨hc,ho⟩:=epB_ch hg hl hn d
 have hlen:=epL_len n d g
 have hmk:=epL_mk hg n d
 generalize epB n d g=b at*
 generalize (epL n d g).1=l at*
 have hz:=hc.sz
 rw[List.length_reverse,hlen] at hz
 have be:b.err=0:=(Fm.err_iff _).2 ⟨hc.sh,by omega⟩
 have hfine:∀s∈l,fine s:=fun s hs=>mk_fine (hmk s hs) hg small_nat (by omega) (by omega)
 have hk:b.okT (g++((l.map fun s=>(s,natT)).map (·.2)).reverse):=by
  have e:((l.map fun s=>(s,natT)).map (·.2)).reverse=List.replicate n natT:=by
   rw[List.map_map]
   have:(l.map ((fun q:Tm×Ty=>q.2)∘fun s=>(s,natT)))=List.replicate n natT:=by
    rw[←hlen];simp[List.map_const',Function.comp_def]
   rw[this,List.reverse_replicate]
  rw[e]
  have:=hc.ok
  rwa [List.length_reverse,hlen] at this
 have e1:(l.map fun s=>(s,natT)).map (·.1)=l:=by simp[List.map_map,Function.comp_def]
 have f1:=fillF_made hg (by omega) (l.length:Int) (l.map fun s=>(s,natT)) 0 b (by simp) (by simp;omega) (fun q hq=>by
  obtain⟨s,hs,rfl⟩:=List.mem_map.1 hq
  exact⟨hmk s hs,small_nat⟩) be hk
 rw[e1] at f1
 have f2:=fill_fits (l.length:Int) 99 4 l 0 b (by omega) (by omega) be (fun s hs=>⟨hfine s hs,by have:=((hmk s hs).size hg small_nat).1;have z4:s3 4=76:=rfl;omega⟩) (fun j hj=>by
  have:=hc.occ j (by rw[List.length_reverse];exact hj);exact this) (by rw[hlen];omega)
 have e0:fill b l=fillF l.length l 0 b:=by
  simp only[fill];rw[if_neg (by simp[be]),if_neg (by omega)]
 have h0:(fill b l).2=0:=by rw[e0];rcases f1.1 with h|h;exact h;exact absurd h f2
 have h1:(fill b l).1.err=0:=by rw[e0] at h0 ⊢;exact fillF_err _ l 0 b be h0
 have h2:(fill b l).1.okT g:=by rw[e0] at h0 ⊢;exact f1.2 h0
 have h3:(fill b l).1=b.sim l 0:=by rw[e0] at h0 ⊢;exact fillF_sim _ l 0 b (by omega) hc.sh h0
 refine⟨h0,h1,h2,?_,?_⟩
 ·have hn1:=(fokT_near hk be (by simp;omega)).2
  have hn2:=(fokT_near h2 h1 (by omega)).2
  have:=match_back be h0 hfine hn1 hn2 (by omega)
  rw[if_pos (fun k hk'=>ho k (by omega))] at this
  rw[←hlen];exact this
 ·rw [insts_sim l.reverse b hc.sh fun s hs=>((hc.tm s hs).1),List.reverse_reverse,h3]
theorem flft_zero{f:Fm}(hf:f.shape=true):f.lft 0 0=f:=Fm.re_id f 0 fun p hp=>lift_zero p.1 (tms_shape f hf 0 p hp) _
def stW:Int→List Tm→List St
 |i,[]=>[⟨1,i,[],[]⟩]
 |i,s::r=>⟨13,i,[s],[]⟩::stW 0 r
theorem stW_len:∀(i:Int) (r:List Tm),(stW i r).length=r.length+1
 |_,[]=>rfl
 |i,s::r=>by simp[stW,stW_len 0 r]
structure UW (g:List Ty) (f:Fm) (hyps:List Fm) (i:Nat) (r:List Tm) (b:Fm):Prop where
 ch:Ch g r b
 hy:∀x∈hyps,x.err=0∧x.okT g
 len:hyps.length+r.length≤16
 lt:i<hyps.length
 at_:hyps.getD (hyps.length-1-i) noFm=allN r.length b
 fin:insts r b=f
section
variable {g:List Ty} {f:Fm} {hyps:List Fm} {i:Nat} {r:List Tm} {b:Fm} {s:Tm}
theorem UW.step(h:UW g f hyps i (s::r) b):UW g f (hyps++[allN r.length (b.put r.length s)]) 0 r (b.put r.length s):=by
 have h1:=h.ch.step
 have h2:=h.len
 simp only[List.length_cons] at h2
 refine⟨h1.1,fun x hx=> ?_,by simp;omega,by simp,by simp[List.getD],h.fin⟩
 rcases List.mem_append.1 hx with hx|hx
 ·exact h.hy x hx
 ·rw [List.mem_singleton.1 hx];exact h1.1.err
theorem UW.ck(h:UW g f hyps i r b):(Ck.mk [] g hyps).ok:=⟨h.ch.hg,by have:=h.len;show hyps.length≤16;omega,by show(0:Nat)≤32;omega,h.hy,fun x hx=>by cases hx⟩
theorem UW.seq(h:UW g f hyps i r b):seqE [] g hyps=0:=seqE_of h.ck
theorem UW.goal(h:UW g f hyps i r b):f.err=0∧f.okT g∧typedFC g f=0:=by
 have h1:=h.ch.insts
 rw[h.fin] at h1
 exact⟨h1.1,h1.2,okT_typedFC h1.2 h1.1 h.ch.hg⟩
theorem UW.all(h:UW g f hyps i (s::r) b):hyps.getD (hyps.length-1-i) noFm=quF 4 natT (allN r.length b):=h.at_
theorem UW.nil(h:UW g f hyps i [] b):hyps.getD (hyps.length-1-i) noFm=f:=by rw[h.at_,←h.fin];rfl
theorem UW.acc(h:UW g f hyps i r b):(∃us,infP (useW i r b) ⟨[],g,hyps⟩=(f,us,0))∨infP (useW i r b) ⟨[],g,hyps⟩=noRes 4:=by
 have:=useW_inf r b i ⟨[],g,hyps⟩ h.ck h.ch h.lt h.at_ h.len
 rwa [h.fin] at this
theorem UW.typ(h:UW g f hyps i (s::r) b):typeOf g s=(natT,0)∧s.err=0:=by
 obtain⟨a1,a2,a3⟩:=h.ch.tm s (by simp)
 have se:s.err=0:=(Tm.err_iff s).2 ⟨a1,by omega⟩
 refine⟨?_,se⟩
 unfold typeOf typed
 rw[if_neg (by simp[h.ch.hg]),if_neg (by simp[se]),a3]
theorem UW.prf(h:UW g f hyps i r b)(hr:r.length≤3):(useW i r b).err=0:=by
 obtain⟨h1,h2,h3⟩:=useW_ok r b i h.ch (by omega)
 exact(Pf.err_iff _).2 ⟨h1,h2,by omega⟩
theorem UW.accepts(h:UW g f hyps i r b)(hr:r.length≤3):AcceptsR [] g hyps (useW i r b) f=0∨AcceptsR [] g hyps (useW i r b) f=4:=by
 have hg:=h.goal
 have e:InferR [] g hyps (useW i r b)=infP (useW i r b) ⟨[],g,hyps⟩:=by
  unfold InferR
  rw[if_neg (by simp[h.seq]),if_neg (by simp[h.prf hr])]
 unfold AcceptsR
 rw[e]
 rcases h.acc with⟨us,h1⟩|h1
 ·left
  rw[h1,if_neg (by simp),if_neg (by simp[hg.2.2]),mtchF_refl hg.1]
 ·right
  rw[h1,if_pos (by simp[noRes])];rfl
end
theorem useT_eq(a:Int)(fs:List Tm):∀(n:Nat),n=fs.length→useT a fs n n++[stEnd a n 0]=stW a fs.reverse:=by
 have key:∀(r:List Tm) (a:Int),(List.range r.length).map (fun m=>(⟨13,if m=0 then a else 0,[r.getD m noTm],[]⟩:St))++[⟨1,if r.length=0 then a else 0,[],[]⟩]=stW a r:=by
  intro r
  induction r with
  |nil=>intro a;rfl
  |cons s r ih=>
   intro a
   rw[List.length_cons,List.range_succ_eq_map,List.map_cons,List.map_map]
   have h1:=ih 0
   simp only[stW,List.cons_append]
   rw[←h1]
   simp[Function.comp_def,List.getD]
 intro n hn
 have h1:=key fs.reverse a
 rw[←h1,List.length_reverse,←hn]
 congr 1
 ·unfold useT
  refine List.map_congr_left fun m hm=> ?_
  have hm:=List.mem_range.1 hm
  unfold stU
  congr 2
  simp only[List.getD]
  rw[List.getElem?_reverse (by omega),hn]
end Go.Ab
