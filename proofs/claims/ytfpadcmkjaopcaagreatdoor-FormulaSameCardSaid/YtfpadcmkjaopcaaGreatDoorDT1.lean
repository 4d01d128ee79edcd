/- A part of the proofs of this seat's statements: D33, D43, D34, D35, D36, D37, D38, D39, D40, D41, D42, D48, D49, D50, D51, D52, D53, D54, D55, D56, D57, D58, D59, D60, D61, D62, D63, D64, D65, D66, D67, D68, D69, D71, D72, D73, D74, D106, D117. It has no conditions of its own. -/
import Derived.Test.YtfpadcmkjaopcaaGreatDoorD1
import Derived.Test.YtfpadcmkjaopcaaGreatDoorAT1
namespace Go.Ab
open Go
set_option linter.all false
theorem kA_none{k:Int}:∀{l:List Int},k∉l→keyAt k l=none
 |[],_=>rfl
 |x::l,h=>by
  simp only[List.mem_cons,not_or] at h
  have h1:¬x=k:=fun e=>h.1 e.symm
  simp only[keyAt,if_neg h1,kA_none h.2,Option.map_none]
theorem kA_some{k:Int}:∀{l:List Int},k∈l→∃i,keyAt k l=some i
 |[],h=>by cases h
 |x::l,h=>by
  by_cases hx:x=k
  ·exact ⟨0,by simp[keyAt,hx]⟩
  ·obtain ⟨i,hi⟩:=kA_some (l:=l) (by rcases List.mem_cons.1 h with h|h;exact absurd h.symm hx;exact h)
   exact⟨i+1,by simp[keyAt,hx,hi]⟩
theorem putKs_eq(k:Int)(ks:List Int):putKs k ks=if k∈ks then ks else ks++[k]:=by
 by_cases h:k∈ks
 ·obtain ⟨i,hi⟩:=kA_some h
  rw[if_pos h,putKs,hi]
 ·rw [if_neg h,putKs,kA_none h]
theorem mem_putKs{k x:Int}{ks:List Int}:x∈putKs k ks↔x∈ks∨x=k:=by
 rw[putKs_eq]
 split
 ·rename_i h
  constructor
  ·exact Or.inl
  ·rintro (h1|rfl)
   ·exact h1
   ·exact h
 ·simp
theorem nodup_putKs{k:Int}{ks:List Int}(h:ks.Nodup):(putKs k ks).Nodup:=by
 rw[putKs_eq]
 split
 ·exact h
 ·rename_i h1
  exact List.nodup_append.2 ⟨h,by simp,fun a ha b hb e=>by simp at hb;subst hb;subst e;exact h1 ha⟩
theorem putCs_same(k:Int)(ks:List Int)(b:Bool):putCs k ks (List.replicate ks.length b) b=List.replicate (putKs k ks).length b:=by
 unfold putCs putKs
 split
 ·rename_i i hi
  apply List.ext_getElem?
  intro j
  rw[List.getElem?_set]
  split
  ·rename_i e;subst e
   have:=(keyAt_some hi).2
   simp[List.getElem?_replicate,this]
  ·rfl
 ·rw [List.length_append,←List.replicate_append_replicate];rfl
def nub(acc l:List Int):List Int:=l.foldl (fun ks k=>putKs k ks) acc
theorem nub_app(acc l l':List Int):nub acc (l++l')=nub (nub acc l) l':=List.foldl_append
theorem nub_nil(acc:List Int):nub acc []=acc:=rfl
theorem nub_one(acc:List Int)(k:Int):nub acc [k]=putKs k acc:=rfl
theorem mem_nub{x:Int}:∀{l acc:List Int},x∈nub acc l↔x∈acc∨x∈l
 |[],acc=>by simp[nub]
 |k::l,acc=>by
  show x∈nub (putKs k acc) l↔_
  rw[mem_nub,mem_putKs,List.mem_cons,or_assoc]
theorem nodup_nub:∀{l acc:List Int},acc.Nodup→(nub acc l).Nodup
 |[],acc,h=>h
 |k::l,acc,h=>nodup_nub (l:=l) (nodup_putKs h)
theorem nub_len:∀(l acc:List Int),(nub acc l).length≤acc.length+l.length
 |[],acc=>by simp[nub]
 |k::l,acc=>by
  have h1:=nub_len l (putKs k acc)
  have h2:(putKs k acc).length≤acc.length+1:=by rw[putKs_eq];split<;>simp
  show(nub (putKs k acc) l).length≤_
  rw[List.length_cons];omega
def fre(l:List (Int×Int)):List Int:=l.filterMap fun p=>if p.2≤p.1 then some (p.1-p.2) else none
theorem fre_app(l l':List (Int×Int)):fre (l++l')=fre l++fre l':=List.filterMap_append
theorem fre_nil:fre []=[]:=rfl
theorem fre_one(i b:Int):fre [(i,b)]=if b≤i then [i-b] else []:=by
 by_cases h:b≤i
 ·simp [fre,h]
 ·simp [fre,h]
theorem fre_len(l:List (Int×Int)):(fre l).length≤l.length:=List.length_filterMap_le _ _
theorem mem_fre{x:Int}{l:List (Int×Int)}:x∈fre l↔0≤x∧∃p∈l,p.1-p.2=x:=by
 simp only[fre,List.mem_filterMap]
 constructor
 ·rintro ⟨p,hp,h⟩
  split at h
  ·cases h;exact⟨by omega,p,hp,rfl⟩
  ·cases h
 ·rintro ⟨h0,p,hp,h⟩
  exact⟨p,hp,by rw[if_pos (by omega),h]⟩
def useK(t:Tm):List Int:=nub [] (fre (t.vars 0))
def usesI(t:Tm):List Int:=sortI (useK t)
def shI(fr by_ v:Int):Int:=if v≥fr then v+by_ else v
def insS(l:List Int)(n:Int)(i:Nat):List Int:=l.take i++(l.getD i n::l.drop i)
def insE(l:List Int)(n:Int)(i:Nat):List Int:=l.take i++n::l.drop i
def lowerErr(t:Tm)(a:Int):Int:=if t.err≠0 then t.err else if ¬(0≤a∧a≤4096) then 1 else if 0<cnt a (t.vars 0) then 6 else 0
def prevs(l:List Int):List Int:=(l.filter fun v=>decide (v≠0)).map (·-1)
def wantI(a b:List Int):List Int:=nub (nub [] (prevs a)) (if 0∈a then b else [])
def hasM(a:List Int)(m:Nat):Bool:=decide (0∈a.take m)
def wM(a:List Int)(m:Nat):List Int:=nub [] (prevs (a.take m))
def wN(a b:List Int)(h:Bool)(m:Nat):List Int:=nub (wM a a.length) (if h=true then b.take m else [])
def useKF(f:Fm):List Int:=nub [] (fre (varsL (f.tms 0)))
def usesFI(f:Fm):List Int:=sortI (useKF f)
theorem useKF_nodup(f:Fm):(useKF f).Nodup:=nodup_nub List.nodup_nil
theorem varsL_nil:varsL []=[]:=rfl
theorem varsL_one(t:Tm)(b:Int):varsL [(t,b)]=t.vars b:=by simp[varsL]
theorem mem_useKF{f:Fm}{x:Int}:x∈useKF f↔0≤x∧∃q∈varsL (f.tms 0),q.1-q.2=x:=by rw[useKF,mem_nub,mem_fre];simp
theorem varsL_len(l:List (Tm×Int)):(varsL l).length≤(l.map fun q=>q.1.size).sum:=by
 induction l with
 |nil=>simp[varsL]
 |cons q l ih=>
  have:=q.1.vars_len q.2
  simp only[varsL,List.flatMap_cons,List.length_append,List.map_cons,List.sum_cons] at ih ⊢
  omega
theorem useKF_len(f:Fm):(useKF f).length≤((f.tms 0).map fun q=>q.1.size).sum:=by
 have h1:=nub_len (fre (varsL (f.tms 0))) []
 have h2:=fre_len (varsL (f.tms 0))
 have h3:=varsL_len (f.tms 0)
 simp only[useKF,List.length_nil] at*;omega
theorem useKF_size(f:Fm):(useKF f).length≤f.size:=by
 have h1:=useKF_len f
 have h2:=tms_size f 0
 omega
def Fm.lft(f:Fm)(fr by_:Int):Fm:=f.re (fun b t=>t.re (liftG (fr+b) by_) 0) 0
def liftFErr(f:Fm)(fr by_:Int):Int:=if f.err≠0 then f.err else if ¬(0≤fr∧fr≤4096)∨¬(0≤by_∧by_≤4096)∨f.near=false then 1 else 0
def lowerFErr(f:Fm)(a:Int):Int:=if f.err≠0 then f.err else if ¬(0≤a∧a≤4096) then 1 else if 0<cntF a (f.tms 0) then 6 else 0
def falseF:Fm:=eqF (.mk 4 0 (.mk 0 []) []) (.mk 5 0 (.mk 0 []) [.mk 4 0 (.mk 0 []) []])
def notF(f:Fm):Fm:= .mk 3 (.mk 0 []) [] [f,falseF]
def zeroF:Fm:=eqF (.mk 1 0 (.mk 0 []) []) (.mk 4 0 (.mk 0 []) [])
def orF(a b:Fm):Fm:= .mk 5 natT [] [.mk 2 (.mk 0 []) [] [.mk 3 (.mk 0 []) [] [zeroF,a],.mk 3 (.mk 0 []) [] [.mk 3 (.mk 0 []) [] [zeroF,falseF],b]]]
theorem fshape_kinds{f:Fm}(h:f.shape=true):
 (f.kind=1∧f.args=[])∨((f.kind=2∨f.kind=3)∧f.terms=[])∨((f.kind=4∨f.kind=5∨f.kind=6∨f.kind=7)∧f.terms=[]∧f.ty.err=0):=by
 rw[Fm.shape_eq,Bool.and_eq_true,Bool.and_eq_true] at h
 have h1:=h.1.1
 unfold Fm.head at h1
 by_cases h2:f.kind=1
 ·rw [if_pos h2] at h1
  simp only[Bool.and_eq_true,beq_iff_eq,List.length_eq_zero_iff] at h1
  exact .inl ⟨h2,h1.2⟩
 rw[if_neg h2] at h1
 by_cases h3:f.kind=2∨f.kind=3
 ·rw [if_pos h3] at h1
  simp only[Bool.and_eq_true,beq_iff_eq,List.length_eq_zero_iff] at h1
  exact .inr (.inl ⟨h3,h1.1.2⟩)
 rw[if_neg h3] at h1
 by_cases h4:f.kind=4∨f.kind=5∨f.kind=6∨f.kind=7
 ·rw [if_pos h4] at h1
  simp only[Bool.and_eq_true,beq_iff_eq,List.length_eq_zero_iff] at h1
  refine .inr (.inr ⟨h4,h1.1.2,(Ty.err_iff f.ty).2 ?_⟩)
  have:=h1.1.1
  simp only[Ty.ok,Bool.and_eq_true,decide_eq_true_eq] at this
  exact this
 rw[if_neg h4] at h1
 cases h1
theorem map_same{α:Type}{f g:α→Nat}{l:List α}(h:∀x∈l,f x=g x):(l.map f).sum=(l.map g).sum:=by rw[List.map_congr_left h]
theorem re_keeps{G:Int→Tm→Tm}(hG:∀b t,t.shape=true→(G b t).shape=true∧(G b t).size=t.size∧(G b t).full=t.full)(f:Fm):∀b,f.shape=true→(f.re G b).shape=true∧(f.re G b).size=f.size∧(f.re G b).full=f.full:=by
 induction f using Fm.ind with
 |h f ih=>
  intro b hf
  have h0:=hf
  rw[Fm.shape_eq,Bool.and_eq_true,Bool.and_eq_true] at h0
  obtain⟨⟨h1,h2⟩,h3⟩:=h0
  rw[Fm.re_eq]
  refine⟨?_,?_,?_⟩
  ·rw [Fm.shape_eq,Bool.and_eq_true,Bool.and_eq_true]
   refine⟨⟨?_,?_⟩,?_⟩
   ·simp only[Fm.head,Fm.kind_mk,Fm.ty_mk,Fm.terms_mk,Fm.args_mk,List.length_map] at h1 ⊢
    exact h1
   ·rw [Fm.terms_mk,List.all_eq_true]
    intro y hy
    obtain⟨x,hx,rfl⟩:=List.mem_map.1 hy
    exact(hG b x (List.all_eq_true.1 h2 x hx)).1
   ·rw [Fm.args_mk,List.all_eq_true]
    intro y hy
    obtain⟨x,hx,rfl⟩:=List.mem_map.1 hy
    exact(ih x hx _ (List.all_eq_true.1 h3 x hx)).1
  ·rw [Fm.size_eq,f.size_eq]
   simp only[Fm.terms_mk,Fm.args_mk,List.map_map]
   rw[map_same (f:=Tm.size∘G b) (g:=Tm.size) fun x hx=>(hG b x (List.all_eq_true.1 h2 x hx)).2.1,map_same (f:=Fm.size∘Fm.re G (upF f.kind b)) (g:=Fm.size) fun x hx=>(ih x hx _ (List.all_eq_true.1 h3 x hx)).2.1]
  ·rw [Fm.full_eq,f.full_eq]
   simp only[Fm.terms_mk,Fm.args_mk,Fm.ty_mk,List.map_map]
   rw[map_same (f:=Tm.full∘G b) (g:=Tm.full) fun x hx=>(hG b x (List.all_eq_true.1 h2 x hx)).2.2,map_same (f:=Fm.full∘Fm.re G (upF f.kind b)) (g:=Fm.full) fun x hx=>(ih x hx _ (List.all_eq_true.1 h3 x hx)).2.2]
theorem lft_keeps{f:Fm}(hf:f.shape=true){fr by_:Int}(hb:0≤by_):(f.lft fr by_).shape=true∧(f.lft fr by_).size=f.size∧(f.lft fr by_).full=f.full:=
 re_keeps (fun b t ht=>⟨lift_shape 0 ht hb,lift_size _ _ t 0 ht,lift_full _ _ t 0 ht⟩) f 0 hf
theorem fokT_lft(g m:List Ty)(fr:Int)(f:Fm):∀(h:List Ty) (b:Int),(h.length:Int)=fr+b→f.shape=true→f.okT (g++h)→
 (f.re (fun b t=>t.re (liftG (fr+b) m.length) 0) b).okT (g++m++h):=by
 induction f using Fm.ind with
 |h f ih=>
  intro h b hb hf hok
  rw[Fm.okT_iff] at hok
  rw[Fm.re_eq,Fm.okT_iff]
  simp only[Fm.terms_mk,Fm.args_mk]
  refine⟨fun y hy=> ?_,fun y hy=> ?_⟩
  ·obtain ⟨x,hx,rfl⟩:=List.mem_map.1 hy
   rw[lift_inf x g m h (fr+b) 0 (fshape_terms hf hx) (by omega)]
   exact hok.1 x hx
  ·obtain ⟨x,hx,rfl⟩:=List.mem_map.1 hy
   have h1:=hok.2 x hx
   by_cases hq:quantK f.kind=true
   ·rw [ctxF_q hq] at h1
    rw[show ∀ts fs,ctxF (g++m++h) (Fm.mk f.kind f.ty ts fs)=g++m++h++[f.ty] from fun ts fs=>ctxF_q (f:=Fm.mk f.kind f.ty ts fs) hq]
    have e:upF f.kind b=b+1:=if_pos hq
    rw[e,List.append_assoc (g++m)]
    rw[List.append_assoc] at h1
    exact ih x hx (h++[f.ty]) (b+1) (by simp;omega) (fshape_args hf hx) h1
   ·rw [ctxF_n hq] at h1
    rw[show ∀ts fs,ctxF (g++m++h) (Fm.mk f.kind f.ty ts fs)=g++m++h from fun ts fs=>ctxF_n (f:=Fm.mk f.kind f.ty ts fs) hq]
    have e:upF f.kind b=b:=if_neg hq
    rw[e]
    exact ih x hx h b hb (fshape_args hf hx) h1
theorem lft_err{f:Fm}(he:f.err=0){fr by_:Int}(hb:0≤by_):(f.lft fr by_).err=0:=by
 have h1:=(Fm.err_iff f).1 he
 obtain⟨h2,h3,_⟩:=lft_keeps h1.1 (fr:=fr) hb
 exact(Fm.err_iff _).2 ⟨h2,by rw[h3];exact h1.2⟩
def exF:Fm:= .mk 4 natT [] [.mk 1 (.mk 0 []) [vT 0,vT 1] []]
theorem exF_uses:usesFI exF=[0]:=by
 have:useKF exF=[0]:=by decide
 rw[usesFI,this];exact List.mergeSort_singleton 0
theorem exF_err:exF.err=0:=by decide
theorem exF_idx:∀p∈varsL (exF.tms 0),(0≤p.1∧p.1<9223372036854775808)∧0≤p.2:=by decide
end Go.Ab
namespace Go.Ab
set_option linter.all false
theorem node_inf{k i:Int}{th T:Ty}{xs:List Tm}{g:List Ty}(k1:k≠1)(k2:k≠2)(h:(Tm.mk k i th xs).inf g=(T,0)):
 (∀x∈xs,x.inf g=((x.inf g).1,0))∧rule k th (xs.map fun x=>(x.inf g).1)=(T,0):=by
 obtain⟨h1,h2⟩:=inf_node (t:=Tm.mk k i th xs) k1 k2 h
 exact⟨fun x hx=>by rw[←h1 x hx],h2⟩
theorem rec_inf{i:Int}{th T:Ty}{x f n:Tm}{g:List Ty}(h:(Tm.mk 6 i th [x,f,n]).inf g=(T,0)):
 T=th∧x.inf g=(th,0)∧f.inf g=(funT natT (funT th th),0)∧n.inf g=(natT,0):=by
 obtain⟨h1,h2⟩:=node_inf (by decide) (by decide) h
 have hx:=h1 x (by simp)
 have hf:=h1 f (by simp)
 have hn:=h1 n (by simp)
 simp only[rule,List.map_cons,List.map_nil,at0_cons0,at0_cons1,at0_cons2,reduceIte,Int.reduceEq] at h2
 by_cases hc:¬(x.inf g).1=th∨¬(f.inf g).1=funT natT (funT th th)∨¬(n.inf g).1=natT
 ·rw [if_pos hc] at h2;cases h2
 ·rw [if_neg hc] at h2
  have e:=congrArg Prod.fst h2
  simp only[not_or,Decidable.not_not] at hc
  exact⟨e.symm,by rw[hx,hc.1],by rw[hf,hc.2.1],by rw[hn,hc.2.2]⟩
theorem fold_inf{i:Int}{th T:Ty}{x f n:Tm}{g:List Ty}(h:(Tm.mk 9 i th [x,f,n]).inf g=(T,0)):
 T=th∧x.inf g=(th,0)∧f.inf g=(funT natT (funT listT (funT th th)),0)∧n.inf g=(listT,0):=by
 obtain⟨h1,h2⟩:=node_inf (by decide) (by decide) h
 have hx:=h1 x (by simp)
 have hf:=h1 f (by simp)
 have hn:=h1 n (by simp)
 simp only[rule,List.map_cons,List.map_nil,at0_cons0,at0_cons1,at0_cons2,reduceIte,Int.reduceEq] at h2
 by_cases hc:¬(x.inf g).1=th∨¬(f.inf g).1=funT natT (funT listT (funT th th))∨¬(n.inf g).1=listT
 ·rw [if_pos hc] at h2;cases h2
 ·rw [if_neg hc] at h2
  have e:=congrArg Prod.fst h2
  simp only[not_or,Decidable.not_not] at hc
  exact⟨e.symm,by rw[hx,hc.1],by rw[hf,hc.2.1],by rw[hn,hc.2.2]⟩
theorem succ_inf{i:Int}{th T:Ty}{x:Tm}{g:List Ty}(h:(Tm.mk 5 i th [x]).inf g=(T,0)):T=natT∧x.inf g=(natT,0):=by
 obtain⟨h1,h2⟩:=node_inf (by decide) (by decide) h
 have hx:=h1 x (by simp)
 simp only[rule,List.map_cons,List.map_nil,at0_cons0,reduceIte,Int.reduceEq] at h2
 by_cases hc:¬(x.inf g).1=natT
 ·rw [if_pos hc] at h2;cases h2
 ·rw [if_neg hc] at h2
  have e:=congrArg Prod.fst h2
  exact⟨e.symm,by rw[hx,Decidable.not_not.1 hc]⟩
theorem cons_inf{i:Int}{th T:Ty}{x y:Tm}{g:List Ty}(h:(Tm.mk 8 i th [x,y]).inf g=(T,0)):T=listT∧x.inf g=(natT,0)∧y.inf g=(listT,0):=by
 obtain⟨h1,h2⟩:=node_inf (by decide) (by decide) h
 have hx:=h1 x (by simp)
 have hy:=h1 y (by simp)
 simp only[rule,List.map_cons,List.map_nil,at0_cons0,at0_cons1,reduceIte,Int.reduceEq] at h2
 by_cases hc:¬(x.inf g).1=natT∨¬(y.inf g).1=listT
 ·rw [if_pos hc] at h2;cases h2
 ·rw [if_neg hc] at h2
  have e:=congrArg Prod.fst h2
  simp only[not_or,Decidable.not_not] at hc
  exact⟨e.symm,by rw[hx,hc.1],by rw[hy,hc.2]⟩
theorem apt_inf{f x:Tm}{a b:Ty}{g:List Ty}(hf:f.inf g=(funT a b,0))(hx:x.inf g=(a,0)):(apT f x).inf g=(b,0):=inf_app hf hx
theorem mkrec_inf{th:Ty}{x f n:Tm}{g:List Ty}(hx:x.inf g=(th,0))(hf:f.inf g=(funT natT (funT th th),0))(hn:n.inf g=(natT,0))(i:Int):(Tm.mk 6 i th [x,f,n]).inf g=(th,0):=by
 rw[Tm.inf_eq]
 simp[Tm.infs,hx,hf,hn,rule]
theorem mkfold_inf{th:Ty}{x f n:Tm}{g:List Ty}(hx:x.inf g=(th,0))(hf:f.inf g=(funT natT (funT listT (funT th th)),0))(hn:n.inf g=(listT,0))(i:Int):(Tm.mk 9 i th [x,f,n]).inf g=(th,0):=by
 rw[Tm.inf_eq]
 simp[Tm.infs,hx,hf,hn,rule]
theorem rv_inf{t u:Tm}(hv:RV t u){g:List Ty}{T:Ty}(hs:t.shape=true)(h:t.inf g=(T,0)):u.inf g=(T,0):=by
 cases hv with
 |beta i th j s b a=>
  have hb:b.shape=true:=shape_args (shape_args hs (.mk 2 j s [b]) (by simp)) b (by simp)
  have ha:a.shape=true:=shape_args hs a (by simp)
  obtain⟨h1,h2⟩:=inf_node (by simp) (by simp) h
  have hf:(Tm.mk 2 j s [b]).inf g=(((Tm.mk 2 j s [b]).inf g).1,0):=by rw[←h1 (.mk 2 j s [b]) (by simp)]
  obtain⟨h3,h4⟩:=inf_lam_inv hf
  have ha0:=h1 a (by simp)
  simp only[Tm.kind_mk,Tm.ty_mk,Tm.args_mk,List.map_cons,List.map_nil,h4] at h2
  have h5:s=(a.inf g).1∧(b.inf (g++[s])).1=T:=by
   simp only[rule,at0,List.getD_cons_zero,List.getD_cons_succ,funT_kind,funT_args] at h2
   by_cases h6:s=(a.inf g).1
   ·refine ⟨h6,?_⟩
    simp[h6] at h2
    rw[h6];exact h2
   ·simp [h6] at h2
  have hσ:a.inf g=(s,0):=by rw[h5.1,←ha0]
  have hp:=put_inf b a g [] s 0 0 hb ha rfl hσ
  rw[List.append_nil,List.append_nil] at hp
  rw[hp,←h5.2,←h3]
 |rz i th x f j s=>obtain⟨rfl,h1,_⟩:=rec_inf h;exact h1
 |fz i th x f j s=>obtain⟨rfl,h1,_⟩:=fold_inf h;exact h1
 |rs i th x f j s n=>
  obtain⟨rfl,h1,h2,h3⟩:=rec_inf h
  obtain⟨_,h4⟩:=succ_inf h3
  exact apt_inf (apt_inf h2 h4) (mkrec_inf h1 h2 h4 0)
 |fs i th x f j s n l=>
  obtain⟨rfl,h1,h2,h3⟩:=fold_inf h
  obtain⟨_,h4,h5⟩:=cons_inf h3
  exact apt_inf (apt_inf (apt_inf h2 h4) h5) (mkfold_inf h1 h2 h5 0)
 |p1 i th j s _ y=>
  obtain⟨h1,h2⟩:=inf_node (by simp) (by simp) h
  have hf:(Tm.mk 10 j s [u,y]).inf g=(((Tm.mk 10 j s [u,y]).inf g).1,0):=by rw[←h1 (.mk 10 j s [u,y]) (by simp)]
  obtain⟨h3,h4,h5⟩:=pair_inf hf
  simp only[Tm.kind_mk,Tm.ty_mk,Tm.args_mk,List.map_cons,List.map_nil,h5] at h2
  simp[rule,at0] at h2
  rw[←h2,←h3]
 |p2 i th j s y _=>
  obtain⟨h1,h2⟩:=inf_node (by simp) (by simp) h
  have hf:(Tm.mk 10 j s [y,u]).inf g=(((Tm.mk 10 j s [y,u]).inf g).1,0):=by rw[←h1 (.mk 10 j s [y,u]) (by simp)]
  obtain⟨h3,h4,h5⟩:=pair_inf hf
  simp only[Tm.kind_mk,Tm.ty_mk,Tm.args_mk,List.map_cons,List.map_nil,h5] at h2
  simp[rule,at0] at h2
  rw[←h2,←h4]
theorem nx_inf(room:Int)(t:Tm):∀(g:List Ty) (T:Ty) (u:Tm),t.shape=true→t.inf g=(T,0)→nxR room t=some (u,true)→u.inf g=(T,0):=by
 induction t using Tm.ind with
 |h t ih=>
  intro g T u hs h hn
  rw[nxR_eq] at hn
  by_cases hr:rootT t=true
  ·rw [if_pos hr] at hn
   split at hn
   ·cases hn
   ·cases hn
    exact rv_inf (root_rv hs hr) hs h
  ·rw [if_neg hr,Option.map_eq_some_iff] at hn
   obtain⟨q,h1,h2⟩:=hn
   obtain⟨m,hm,v,h3,h4⟩:=nxRs_some _ _ _ h1
   have e2:=congrArg Prod.snd h2
   have e1:=congrArg Prod.fst h2
   simp only at e1 e2
   rw[e2] at h3
   rw[←e1,h4]
   have hargs:=shape_args hs
   have hx:=hargs _ (List.getElem_mem hm)
   have hmem:=List.getElem_mem hm
   by_cases k1:t.kind=1
   ·exact absurd (var_args hs k1) (fun hh=>by rw[hh] at hm;simp at hm)
   ·have key:∀g' T',(t.args[m]).inf g'=(T',0)→v.inf g'=(T',0):=fun g' T' hi=>ih _ hmem g' T' v hx hi h3
    by_cases k2:t.kind=2
    ·obtain ⟨i,th,b,rfl,hb⟩:=mkArgs1 hs k2 rfl
     obtain⟨h5,h6⟩:=inf_lam_inv h
     have hm0:m=0:=by simp at hm;omega
     subst hm0
     simp only[Tm.args_mk,List.getElem_cons_zero] at*
     have q1:=key (g++[th]) (b.inf (g++[th])).1 (by rw[←h5])
     have:v.inf (g++[th])=b.inf (g++[th]):=by rw[q1,←h5]
     rw[←h]
     simp only[List.set_cons_zero,Tm.kind_mk,Tm.ty_mk,Tm.index_mk]
     exact lam_congr this
    ·obtain ⟨h5,h6⟩:=inf_node k1 k2 h
     have h7:=h5 _ hmem
     have q1:=key g (t.args[m].inf g).1 (by rw[←h7])
     have hi:v.inf g=(t.args[m]).inf g:=by rw[q1,←h7]
     rw[←h,Tm.inf_eq g (Tm.mk t.kind t.index t.ty (t.args.set m v)),if_neg (show ¬(Tm.mk t.kind t.index t.ty (t.args.set m v)).kind=1 from k1),if_neg (show ¬(Tm.mk t.kind t.index t.ty (t.args.set m v)).kind=2 from k2),t.inf_eq,if_neg k1,if_neg k2]
     show(if(Tm.infs g (t.args.set m v)).2≠0 then(noTy,(Tm.infs g (t.args.set m v)).2) else rule t.kind t.ty (Tm.infs g (t.args.set m v)).1)=_
     rw[infs_set g v t.args m hm hi]
theorem nrm_inf:∀(k:Nat) (t:Tm) (n:Nat) (g:List Ty) (T:Ty),t.err=0→t.inf g=(T,0)→(nrm k t n).2.2=0→(nrm k t n).1.inf g=(T,0)
 |0,t,n,g,T,he,hi,h=>by
  simp only[nrm] at h ⊢
  cases hx:nxR (4096-t.size) t with
  |none=>exact hi
  |some p=>rw[hx] at h;cases h
 |k+1,t,n,g,T,he,hi,h=>by
  simp only[nrm] at h ⊢
  cases hx:nxR (4096-t.size) t with
  |none=>exact hi
  |some p=>
   obtain⟨x,f⟩:=p
   rw[hx] at h
   cases f with
   |false=>cases h
   |true=>exact nrm_inf k x (n+1) g T (nx_err he hx) (nx_inf _ t g T x (err_zero he).1 hi hx) h
theorem normR_ok{t:Tm}{steps:Int}(h:(normR t steps).2.2=0):t.err=0∧(normR t steps).1.err=0∧Pst t (normR t steps).1∧nf (normR t steps).1∧∀g T,t.inf g=(T,0)→(normR t steps).1.inf g=(T,0):=by
 unfold normR at h ⊢
 by_cases h1:t.err≠0
 ·rw [if_pos h1] at h;exact absurd h h1
 ·rw [if_neg h1] at h ⊢
  have h1':t.err=0:=Decidable.not_not.1 h1
  by_cases h2:¬(0≤steps∧steps≤65536)∨t.near=false
  ·rw [if_pos h2] at h;cases h
  ·rw [if_neg h2] at h ⊢
   obtain⟨a,b,c⟩:=nrm_ok _ t 0 h1' h
   exact⟨h1',c,a,b,fun g T hi=>nrm_inf _ t 0 g T h1' hi h⟩
end Go.Ab
namespace Go.Ab
open Go
set_option linter.all false
structure Ck where
 lems:List Fm
 tys:List Ty
 hyps:List Fm
def Ck.view(c:Ck):List V:=[.s .fm c.lems,.s .ty c.tys,.s .fm c.hyps]
def Ck.below(c:Ck)(l:List Ty):Ck:=⟨c.lems,c.tys++l,c.hyps.map fun f=>f.lft 0 l.length⟩
def Ck.with_(c:Ck)(f:Fm):Ck:=⟨c.lems,c.tys,c.hyps++[f]⟩
def Ck.room(c:Ck)(v h:Nat):Int:=if c.tys.length+v>16∨c.hyps.length+h>16 then 3 else 0
def unionI(a b:List Int):List Int:=sortI (nub (nub [] a) b)
def outI(l:List Int)(n:Int):List Int:=(l.filter fun x=>decide (x≥n)).map (·-n)
def hasI:List Int→Bool
 |[]=>false
 |x::_=>x==0
def freeT(t:Tm):List Int:=if t.err=0 then usesI t else []
def putK(f:Fm)(t:Tm):Fm×Int:=(if putFErr f 0 t=0 then f.put 0 t else noFm,putFErr f 0 t)
def kTyp(c:Ck)(t:Tm)(k:Int):Int:=if(typeOf c.tys t).2≠0 then(typeOf c.tys t).2 else if(typeOf c.tys t).1.kind≠k then 7 else 0
def nrmTs:List Tm→List Tm×Int
 |[]=>([],0)
 |t::l=>if(normR t 1000).2.2≠0 then([],(normR t 1000).2.2) else if(nrmTs l).2≠0 then([],(nrmTs l).2) else((normR t 1000).1::(nrmTs l).1,0)
mutual
def normF:Fm→Fm×Int
 | .mk k h ts zs=>if(nrmTs ts).2≠0 then(noFm,(nrmTs ts).2) else if(normFs zs).2≠0 then(noFm,(normFs zs).2) else(.mk k h (nrmTs ts).1 (normFs zs).1,0)
def normFs:List Fm→List Fm×Int
 |[]=>([],0)
 |f::l=>if(normF f).2≠0 then([],(normF f).2) else if(normFs l).2≠0 then([],(normFs l).2) else((normF f).1::(normFs l).1,0)
end
mutual
def contF:Fm→Bool
 | .mk k _ _ zs=>if k=1 then false else if k=2 then(contFs zs).getD 0 false||(contFs zs).getD 1 false else if k=5 then true else(contFs zs).getLastD false
def contFs:List Fm→List Bool
 |[]=>[]
 |f::l=>contF f::contFs l
end
abbrev Res:=Fm×List Int×Int
abbrev Rs:=Ck→Res
def noRes(e:Int):Res:=(noFm,[],e)
def partR(r:Rs)(c:Ck)(f:Fm)(t:Tm):List Int×Int:=
 if(r c).2.2≠0 then([],(r c).2.2) else if(putK f t).2≠0 then([],(putK f t).2) else((r c).2.1,mtchF (putK f t).1 (r c).1)
def finR(r:Res):Res:=if r.2.2≠0 then noRes r.2.2 else if r.1.err≠0 then noRes 4 else(r.1,if contF r.1=true then r.2.1 else [],0)
def hypR(c:Ck)(i:Int):Res:=if i≥c.hyps.length then noRes 8 else(c.hyps.getD (c.hyps.length-1-i.toNat) noFm,[],0)
def lemR(c:Ck)(i:Int):Res:=if i≥c.lems.length then noRes 9 else(c.lems.getD i.toNat noFm,[],0)
def andR(r0 r1:Rs)(c:Ck):Res:=if(r0 c).2.2≠0 then noRes (r0 c).2.2 else(twoF 2 (r0 c).1 (r1 c).1,unionI (r0 c).2.1 (r1 c).2.1,(r1 c).2.2)
def prjR(j:Nat)(r0:Rs)(c:Ck):Res:=if(r0 c).2.2≠0 then noRes (r0 c).2.2 else if(r0 c).1.kind≠2 then noRes 10 else((r0 c).1.args.getD j noFm,(r0 c).2.1,0)
def impiR(f:Fm)(r0:Rs)(c:Ck):Res:=
 if typedFC c.tys f≠0 then noRes (typedFC c.tys f) else if c.room 0 1≠0 then noRes 3 else(twoF 3 f (r0 (c.with_ f)).1,(r0 (c.with_ f)).2.1,(r0 (c.with_ f)).2.2)
def impeR(r0 r1:Rs)(c:Ck):Res:=
 if(r0 c).2.2≠0 then noRes (r0 c).2.2 else if(r0 c).1.kind≠3 then noRes 10 else if(r1 c).2.2≠0 then noRes (r1 c).2.2
 else((r0 c).1.args.getD 1 noFm,unionI (r0 c).2.1 (r1 c).2.1,mtchF ((r0 c).1.args.getD 0 noFm) (r1 c).1)
def allR(k:Int)(s:Ty)(r0:Rs)(c:Ck):Res:=
 if c.room 1 0≠0 then noRes 3 else if(r0 (c.below [s])).2.2≠0 then noRes (r0 (c.below [s])).2.2
 else if k=8 then(quF 4 s (r0 (c.below [s])).1,outI (r0 (c.below [s])).2.1 1,0)
 else if hasI (r0 (c.below [s])).2.1=true then noRes 12 else(quF 6 s (r0 (c.below [s])).1,outI (r0 (c.below [s])).2.1 1,0)
def kI(k u a b:Int):Int:=if k=u then a else b
def kL(k u:Int)(a b:List Int):List Int:=if k=u then a else b
def atR(k:Int)(t:Tm)(r0:Rs)(c:Ck):Res:=
 if(typeOf c.tys t).2≠0 then noRes (typeOf c.tys t).2 else if(r0 c).2.2≠0 then noRes (r0 c).2.2
 else if(r0 c).1.kind≠kI k 13 6 4 then noRes 10 else if(r0 c).1.ty≠(typeOf c.tys t).1 then noRes 7
 else((putK ((r0 c).1.args.getD 0 noFm) t).1,kL k 13 (r0 c).2.1 (unionI (r0 c).2.1 (freeT t)),(putK ((r0 c).1.args.getD 0 noFm) t).2)
def exR(k:Int)(f:Fm)(t:Tm)(r0:Rs)(c:Ck):Res:=
 if typedFC c.tys f≠0 then noRes (typedFC c.tys f) else if f.kind≠kI k 14 7 5 then noRes 10
 else if(typeOf c.tys t).2≠0 then noRes (typeOf c.tys t).2 else if f.ty≠(typeOf c.tys t).1 then noRes 7
 else(f,kL k 14 (partR r0 c (f.args.getD 0 noFm) t).1 (unionI (partR r0 c (f.args.getD 0 noFm) t).1 (freeT t)),(partR r0 c (f.args.getD 0 noFm) t).2)
def freeR(f:Fm):Fm×Int:=
 if timesF 0 f=0 then(f,0) else if(normF f).2≠0 then(noFm,(normF f).2) else if timesF 0 (normF f).1≠0 then(noFm,6) else((normF f).1,0)
def openB(r1:Rs)(c:Ck)(a:Fm):Res:=r1 ((c.below [a.ty]).with_ (a.args.getD 0 noFm))
def opnR(k:Int)(r0 r1:Rs)(c:Ck):Res:=
 if(r0 c).2.2≠0 then noRes (r0 c).2.2 else if(r0 c).1.kind≠kI k 15 7 5 then noRes 10 else if c.room 1 1≠0 then noRes 3
 else if(openB r1 c (r0 c).1).2.2≠0 then noRes (openB r1 c (r0 c).1).2.2
 else if(freeR (openB r1 c (r0 c).1).1).2≠0 then noRes (freeR (openB r1 c (r0 c).1).1).2
 else if k=15∧hasI (openB r1 c (r0 c).1).2.1=true then noRes 12
 else((freeR (openB r1 c (r0 c).1).1).1.lft 1 (-1),unionI (r0 c).2.1 (outI (openB r1 c (r0 c).1).2.1 1),0)
def indR(f:Fm)(t:Tm)(r0 r1:Rs)(c:Ck):Res:=
 if typedF (c.tys++[natT]) f≠0 then noRes (typedF (c.tys++[natT]) f) else if kTyp c t 1≠0 then noRes (kTyp c t 1)
 else if(partR r0 c f zT).2≠0 then noRes (partR r0 c f zT).2 else if c.room 1 1≠0 then noRes 3
 else if(partR r1 ((c.below [natT]).with_ f) (f.lft 1 1) (sT (vT 0))).2≠0 then noRes (partR r1 ((c.below [natT]).with_ f) (f.lft 1 1) (sT (vT 0))).2
 else((putK f t).1,unionI (unionI (freeT t) (partR r0 c f zT).1) (outI (partR r1 ((c.below [natT]).with_ f) (f.lft 1 1) (sT (vT 0))).1 1),(putK f t).2)
def nilM:Tm:= .mk 7 0 (.mk 0 []) []
def consM:Tm:= .mk 8 0 (.mk 0 []) [vT 1,vT 0]
def listR(f:Fm)(t:Tm)(r0 r1:Rs)(c:Ck):Res:=
 if typedF (c.tys++[listT]) f≠0 then noRes (typedF (c.tys++[listT]) f) else if kTyp c t 2≠0 then noRes (kTyp c t 2)
 else if(partR r0 c f nilM).2≠0 then noRes (partR r0 c f nilM).2 else if c.room 2 1≠0 then noRes 3
 else if(partR r1 ((c.below [natT,listT]).with_ (f.lft 1 1)) (f.lft 1 2) consM).2≠0 then noRes (partR r1 ((c.below [natT,listT]).with_ (f.lft 1 1)) (f.lft 1 2) consM).2
 else((putK f t).1,unionI (unionI (freeT t) (partR r0 c f nilM).1) (outI (partR r1 ((c.below [natT,listT]).with_ (f.lft 1 1)) (f.lft 1 2) consM).1 2),(putK f t).2)
def reflR(t:Tm)(c:Ck):Res:=(eqF t t,[],kTyp c t 1)
def substR(f:Fm)(r0 r1:Rs)(c:Ck):Res:=
 if typedF (c.tys++[natT]) f≠0 then noRes (typedF (c.tys++[natT]) f) else if(r0 c).2.2≠0 then noRes (r0 c).2.2 else if(r0 c).1.kind≠1 then noRes 10
 else if(partR r1 c f ((r0 c).1.terms.getD 0 noTm)).2≠0 then noRes (partR r1 c f ((r0 c).1.terms.getD 0 noTm)).2
 else((putK f ((r0 c).1.terms.getD 1 noTm)).1,(partR r1 c f ((r0 c).1.terms.getD 0 noTm)).1,(putK f ((r0 c).1.terms.getD 1 noTm)).2)
def appV:Tm:=apT (vT 1) (vT 0)
def chB(a:Fm):Fm×Int:=putK (((a.args.getD 0 noFm).args.getD 0 noFm).lft 2 1) appV
def chF(a:Fm):Ty:=funT a.ty (a.args.getD 0 noFm).ty
def choiceR(r0:Rs)(c:Ck):Res:=
 if(r0 c).2.2≠0 then noRes (r0 c).2.2 else if(r0 c).1.kind≠4∨((r0 c).1.args.getD 0 noFm).kind≠5 then noRes 10 else if(chF (r0 c).1).err≠0 then noRes 4
 else(quF 5 (chF (r0 c).1) (quF 4 (r0 c).1.ty (chB (r0 c).1).1),(r0 c).2.1,(chB (r0 c).1).2)
def ruleR(k i:Int)(s:Ty)(ts:List Tm)(fs:List Fm)(rs:List Rs)(c:Ck):Res:=
 if k=1 then hypR c i else if k=2 then lemR c i else if k=3 then andR (rs.getD 0 fun _=>noRes 0) (rs.getD 1 fun _=>noRes 0) c
 else if k=4∨k=5 then prjR (k-4).toNat (rs.getD 0 fun _=>noRes 0) c
 else if k=6 then impiR (fs.getD 0 noFm) (rs.getD 0 fun _=>noRes 0) c
 else if k=7 then impeR (rs.getD 0 fun _=>noRes 0) (rs.getD 1 fun _=>noRes 0) c
 else if k=8∨k=12 then allR k s (rs.getD 0 fun _=>noRes 0) c
 else if k=9∨k=13 then atR k (ts.getD 0 noTm) (rs.getD 0 fun _=>noRes 0) c
 else if k=10∨k=14 then exR k (fs.getD 0 noFm) (ts.getD 0 noTm) (rs.getD 0 fun _=>noRes 0) c
 else if k=11∨k=15 then opnR k (rs.getD 0 fun _=>noRes 0) (rs.getD 1 fun _=>noRes 0) c
 else if k=16 then indR (fs.getD 0 noFm) (ts.getD 0 noTm) (rs.getD 0 fun _=>noRes 0) (rs.getD 1 fun _=>noRes 0) c
 else if k=17 then listR (fs.getD 0 noFm) (ts.getD 0 noTm) (rs.getD 0 fun _=>noRes 0) (rs.getD 1 fun _=>noRes 0) c
 else if k=18 then reflR (ts.getD 0 noTm) c
 else if k=19 then substR (fs.getD 0 noFm) (rs.getD 0 fun _=>noRes 0) (rs.getD 1 fun _=>noRes 0) c
 else choiceR (rs.getD 0 fun _=>noRes 0) c
mutual
def infP:Pf→Rs
 | .mk k i s ts fs zs=>fun c=>finR (ruleR k i s ts fs (infPs zs) c)
def infPs:List Pf→List Rs
 |[]=>[]
 |p::l=>infP p::infPs l
end
theorem infPs_eq:∀l:List Pf,infPs l=l.map infP
 |[]=>rfl
 |p::l=>by rw[infPs,infPs_eq l];rfl
theorem infP_eq(p:Pf)(c:Ck):infP p c=finR (ruleR p.kind p.index p.ty p.terms p.forms (p.args.map infP) c):=by cases p;simp only[infP,infPs_eq];rfl
theorem firstErr_of:∀{g:List Ty},(∀x∈g,x.err=0)→firstErr g=0
 |[],_=>rfl
 |x::l,h=>by
  simp only[firstErr]
  rw[if_neg (by simp[h x (by simp)])]
  exact firstErr_of fun y hy=>h y (by simp[hy])
theorem ctxErr_of{g:List Ty}(hl:g.length≤16)(h:∀x∈g,x.err=0):ctxErr g=0:=by
 unfold ctxErr
 rw[if_neg (by omega)]
 exact firstErr_of h
theorem nat_of{t:Ty}(he:t.err=0)(hk:t.kind=1):t=natT:=by
 have h:=((Ty.err_iff t).1 he).1
 obtain⟨k,zs⟩:=t
 rw[Ty.shape_eq,Bool.and_eq_true] at h
 have h1:=h.1
 simp only[Ty.kind,Ty.args] at hk h1
 subst hk
 have h2:zs.length=0:=by simpa [arT] using h1
 rw[List.eq_nil_of_length_eq_zero h2];rfl
theorem list_of{t:Ty}(he:t.err=0)(hk:t.kind=2):t=listT:=by
 have h:=((Ty.err_iff t).1 he).1
 obtain⟨k,zs⟩:=t
 rw[Ty.shape_eq,Bool.and_eq_true] at h
 have h1:=h.1
 simp only[Ty.kind,Ty.args] at hk h1
 subst hk
 have h2:zs.length=0:=by simpa [arT] using h1
 rw[List.eq_nil_of_length_eq_zero h2];rfl
def UsesOk(n:Nat)(l:List Int):Prop:=l.Nodup∧∀u∈l,0≤u∧u<n
theorem UsesOk.nil(n:Nat):UsesOk n []:=⟨List.nodup_nil,fun u h=>by cases h⟩
theorem UsesOk.len{n:Nat}{l:List Int}(h:UsesOk n l):l.length≤n:=(nodup_len n l h.1 h.2).1
theorem mem_outI{l:List Int}{n x:Int}:x∈outI l n↔0≤x∧x+n∈l:=by
 simp only[outI,List.mem_map,List.mem_filter,decide_eq_true_eq]
 constructor
 ·rintro ⟨y,⟨h1,h2⟩,rfl⟩
  exact⟨by omega,by rw[Int.sub_add_cancel];exact h1⟩
 ·rintro ⟨h1,h2⟩
  exact⟨x+n,⟨h2,by omega⟩,by omega⟩
theorem UsesOk.out{n m:Nat}{l:List Int}(h:UsesOk (n+m) l):UsesOk n (outI l m):=by
 refine⟨?_,fun u hu=> ?_⟩
 ·have h1:(l.filter fun x=>decide (x≥(m:Int))).Nodup:=h.1.filter _
  unfold outI
  rw[List.nodup_iff_pairwise_ne,List.pairwise_map]
  exact(List.nodup_iff_pairwise_ne.1 h1).imp fun hne e=>hne (by omega)
 ·obtain ⟨h1,h2⟩:=mem_outI.1 hu
  have:=h.2 _ h2
  exact⟨h1,by omega⟩
theorem part_err{f x:Fm}(hf:f.err=0)(hx:x∈f.args):x.err=0:=by
 have h:=(Fm.err_iff f).1 hf
 have h1:=lsum_mem Fm.size hx
 have h2:=f.size_eq
 exact(Fm.err_iff x).2 ⟨fshape_args h.1 hx,by omega⟩
theorem term_err{f:Fm}{t:Tm}(hf:f.err=0)(ht:t∈f.terms):t.err=0:=by
 have h:=(Fm.err_iff f).1 hf
 have h1:=lsum_mem Tm.size ht
 have h2:=f.size_eq
 exact(Tm.err_iff t).2 ⟨fshape_terms h.1 ht,by omega⟩
theorem two_okT{k:Int}{a b:Fm}{g:List Ty}(hk:k=2∨k=3)(h:(twoF k a b).okT g):a.okT g∧b.okT g:=by
 rw[Fm.okT_iff] at h
 have e:ctxF g (twoF k a b)=g:=ctxF_n (by show ¬quantK k=true;rw[quantK_iff];omega)
 rw[e] at h
 exact⟨h.2 a (by simp[twoF]),h.2 b (by simp[twoF])⟩
theorem qu_okT{k:Int}{s:Ty}{a:Fm}{g:List Ty}(hk:4≤k∧k≤7)(h:(quF k s a).okT g):a.okT (g++[s]):=by
 rw[Fm.okT_iff] at h
 have e:ctxF g (quF k s a)=g++[s]:=ctxF_q (quantK_iff.2 hk)
 rw[e] at h
 exact h.2 a (by simp[quF])
theorem eq_okT{a b:Tm}{g:List Ty}:(eqF a b).okT g↔a.inf g=(natT,0)∧b.inf g=(natT,0):=by
 rw[Fm.okT_iff]
 simp[eqF]
theorem twoF_size(k:Int)(a b:Fm):(twoF k a b).size=1+a.size+b.size:=by rw[Fm.size_eq];simp[twoF];omega
theorem quF_size(k:Int)(s:Ty)(a:Fm):(quF k s a).size=1+a.size:=by rw[Fm.size_eq];simp[quF]
theorem lft_okTs{f:Fm}{g h:List Ty}(m:List Ty)(hf:f.shape=true)(hok:f.okT (g++h)):(f.lft h.length m.length).okT (g++m++h):=by
 have:=fokT_lft g m h.length f h 0 (by omega) hf hok
 exact this
structure Ck.ok (c:Ck):Prop where
 ctx:ctxErr c.tys=0
 nh:c.hyps.length≤16
 nl:c.lems.length≤32
 hyps:∀f∈c.hyps,f.err=0∧f.okT c.tys
 lems:∀f∈c.lems,f.err=0∧f.okT []
theorem Ck.ok.len{c:Ck}(h:c.ok):c.tys.length≤16:=(ctxErr_all h.ctx).1
theorem Ck.ok.all{c:Ck}(h:c.ok):∀x∈c.tys,x.err=0:=(ctxErr_all h.ctx).2
theorem Ck.ok.below{c:Ck}(h:c.ok){l:List Ty}(hl:c.tys.length+l.length≤16)(he:∀x∈l,x.err=0):(c.below l).ok:=by
 refine⟨ctxErr_of (by simp[Ck.below];omega) fun x hx=> ?_,by simp[Ck.below];exact h.nh,h.nl,fun f hf=> ?_,h.lems⟩
 ·rcases List.mem_append.1 hx with hx|hx
  ·exact h.all x hx
  ·exact he x hx
 ·obtain ⟨y,hy,rfl⟩:=List.mem_map.1 hf
  obtain⟨h1,h2⟩:=h.hyps y hy
  refine⟨lft_err h1 (by omega),?_⟩
  have h3:=lft_okTs (g:=c.tys) (h:=[]) l ((Fm.err_iff y).1 h1).1 (by simpa using h2)
  simpa [Ck.below] using h3
theorem Ck.ok.with_{c:Ck}(h:c.ok){f:Fm}(hl:c.hyps.length+1≤16)(hf:f.err=0)(hok:f.okT c.tys):(c.with_ f).ok:=by
 refine⟨h.ctx,by simp[Ck.with_];omega,h.nl,fun y hy=> ?_,h.lems⟩
 rcases List.mem_append.1 hy with hy|hy
 ·exact h.hyps y hy
 ·simp only[List.mem_singleton] at hy
  subst hy;exact⟨hf,hok⟩
def RuleOk(c:Ck)(r:Res):Prop:=r.2.2=0→r.1.shape=true∧r.1.size≤20000000∧r.1.okT c.tys∧UsesOk c.tys.length r.2.1
def ResOk(c:Ck)(r:Res):Prop:=(r.2.2=0→r.1.err=0∧r.1.okT c.tys∧UsesOk c.tys.length r.2.1)∧(r.2.2≠0→r=noRes r.2.2)
def RsOk(r:Rs):Prop:=∀c,c.ok→ResOk c (r c)
theorem zT_inf(g:List Ty):zT.inf g=(natT,0):=by simp[zT,Tm.inf,Tm.infs,rule]
theorem nil_inf(g:List Ty):nilM.inf g=(listT,0):=by simp[nilM,Tm.inf,Tm.infs,rule]
theorem Ck.ok.one{c:Ck}(h:c.ok){s:Ty}(hs:s.err=0):∀x∈c.tys++[s],x.err=0:=fun x hx=>by
 rcases List.mem_append.1 hx with hx|hx
 ·exact h.all x hx
 ·simp only[List.mem_singleton] at hx;subst hx;exact hs
def PfOk(p:Pf):Prop:=p.shape=true∧p.small=true
def seqE(lems:List Fm)(tys:List Ty)(hyps:List Fm):Int:=
 if lems.length>32 then 3 else if firstI (typedFC []) lems≠0 then firstI (typedFC []) lems else if ctxErr tys≠0 then ctxErr tys
 else if hyps.length>16 then 3 else firstI (typedFC tys) hyps
def InferR(lems:List Fm)(tys:List Ty)(hyps:List Fm)(p:Pf):Res:=
 if seqE lems tys hyps≠0 then noRes (seqE lems tys hyps) else if p.err≠0 then noRes p.err else infP p ⟨lems,tys,hyps⟩
def AcceptsR(lems:List Fm)(tys:List Ty)(hyps:List Fm)(p:Pf)(f:Fm):Int:=
 if(InferR lems tys hyps p).2.2≠0 then(InferR lems tys hyps p).2.2 else if typedFC tys f≠0 then typedFC tys f else mtchF (InferR lems tys hyps p).1 f
def fvK(k:Int):Int:=if k=16∨k=17∨k=19 then 1 else 0
def vaK(k:Int):Int:=if k=17 then 2 else if k=8∨k=12∨k=11∨k=15∨k=16 then 1 else 0
def hyK(k:Int):Int:=if k=6∨k=11∨k=15∨k=16∨k=17 then 1 else 0
def ruC(k:Int):List V:=match ndP k with
 |some n=>[.bool n.index,.bool n.typ,.i n.terms,.i n.forms,.i n.args,.i (fvK k),.i (vaK k),.i (hyK k)]
 |none=>[.bool false,.bool false,.i 0,.i 0,.i 0,.i 0,.i 0,.i 0]
abbrev Tl:=Nat×Bool
def tlT:List Tm→Tl→Bool×Tl
 |[],s=>(true,s)
 |t::l,s=>if t.err=2 then(false,(s.1+t.num.toNat,s.2||t.err==4)) else tlT l (s.1+t.num.toNat,s.2||t.err==4)
def tlF:List Fm→Tl→Bool×Tl
 |[],s=>(true,s)
 |t::l,s=>if t.err=2 then(false,(s.1+t.num.toNat,s.2||t.err==4)) else tlF l (s.1+t.num.toNat,s.2||t.err==4)
def Pf.hdA(p:Pf):Bool:=match ndP p.kind with
 |none=>false
 |some n=>p.terms.length==n.terms&&p.forms.length==n.forms&&p.args.length==n.args&&decide (0≤p.index)&&(n.index||p.index==0)
def Pf.hdT(p:Pf):Bool:=match ndP p.kind with
 |none=>false
 |some n=>if n.typ=true then p.ty.ok else p.ty.isNo
mutual
def tlP:Pf→Tl→Bool×Tl
 | .mk k i h ts fs zs,s=>
   if Pf.hdA (.mk k i h ts fs zs)=false then(false,s) else if Pf.hdT (.mk k i h ts fs zs)=false then(false,(s.1+1,s.2))
   else if(tlT ts (s.1+1,s.2)).1=false then tlT ts (s.1+1,s.2)
   else if(tlF fs (tlT ts (s.1+1,s.2)).2).1=false then tlF fs (tlT ts (s.1+1,s.2)).2
   else tlPs zs (tlF fs (tlT ts (s.1+1,s.2)).2).2
def tlPs:List Pf→Tl→Bool×Tl
 |[],s=>(true,s)
 |p::l,s=>if(tlP p s).1=false then tlP p s else tlPs l (tlP p s).2
end
def Pf.num(p:Pf):Int:=if p.err=0 then p.size else 0
theorem mtchR_refl{t:Tm}(h:t.err=0)(k:Int):mtchR t t k=0:=by
 unfold mtchR;rw[if_neg (by simp[h]),if_neg (by simp[h]),if_pos rfl]
theorem mtTs_refl:∀(l:List Tm),(∀t∈l,t.err=0)→mtTs l l=0:=fun l h=>mtTs_none l l fun j h1 _=>mtchR_refl (h _ (List.getElem_mem h1)) 1000
theorem mtF_refl(f:Fm):f.err=0→mtF f f=0:=by
 induction f using Fm.ind with
 |h f ih=>
  intro he
  rw[mtF_eq,if_pos ⟨rfl,rfl⟩,mtTs_refl f.terms (fun t ht=>term_err he ht),if_neg (by simp)]
  exact mtFs_none f.args f.args fun j h1 _=>ih _ (List.getElem_mem h1) (part_err he (List.getElem_mem h1))
theorem mtF_eqn(a b x y:Tm):mtF (eqF a b) (eqF x y)=if mtchR a x 1000≠0 then mtchR a x 1000 else mtchR b y 1000:=by
 rw[mtF_eq,if_pos ⟨rfl,rfl⟩]
 simp only[eqF,Fm.terms_mk,Fm.args_mk,mtTs,mtFs]
 by_cases h1:mtchR a x 1000≠0
 ·simp only[h1,ne_eq,not_false_eq_true,if_true]
 ·by_cases h2:mtchR b y 1000≠0
  ·simp only[h1,h2,ne_eq,not_false_eq_true,if_true,if_false,not_true_eq_false]
  ·simp only[h1,h2,if_false,ne_eq,not_true_eq_false]
   rw[Decidable.not_not] at h2;exact h2.symm
theorem refl_inf{c:Ck}{s:Tm}(hk:kTyp c s 1=0)(he:(eqF s s).err=0):infP (reflP s) c=(eqF s s,[],0):=by
 rw[infP_eq]
 have e:ruleR (reflP s).kind (reflP s).index (reflP s).ty (reflP s).terms (reflP s).forms ((reflP s).args.map infP) c=reflR s c:=rfl
 rw[e]
 unfold reflR finR
 rw[hk,if_neg (by simp),if_neg (by simp[he])]
 simp only
 split<;>rfl
def substP(f:Fm)(p q:Pf):Pf:= .mk 19 0 (.mk 0 []) [] [f] [p,q]
theorem kTyp_of{c:Ck}(hc:c.ok){s:Tm}(he:s.err=0)(hi:s.inf c.tys=(natT,0)):kTyp c s 1=0:=by
 have e:typeOf c.tys s=(natT,0):=by
  unfold typeOf typed
  rw[if_neg (by simp[hc.ctx]),if_neg (by simp[he]),hi]
 unfold kTyp
 rw[e];rfl
structure NumOk (g:List Ty) (s:Tm):Prop where
 err:s.err=0
 inf:s.inf g=(natT,0)
 size:s.size≤900
theorem NumOk.shape{g:List Ty}{s:Tm}(h:NumOk g s):s.shape=true:=((Tm.err_iff s).1 h.err).1
theorem NumOk.near{g:List Ty}{s:Tm}(h:NumOk g s)(hg:g.length≤1000):s.near=true:=near_of (by rw[h.inf]) h.shape (by have:=h.size;omega)
theorem eqf_err{a b:Tm}(ha:a.shape=true)(hb:b.shape=true)(hz:a.size+b.size≤4095):(eqF a b).err=0:=
 (Fm.err_iff _).2 ⟨eqF_shape ha hb,by rw[eqF_size];omega⟩
theorem v0_inf(g:List Ty)(u:Ty):(vT 0).inf (g++[u])=(u,0):=by
 rw[inf_var' _ _ (by omega),if_neg (by simp)]
 have:look (g++[u]) 0=look [u] 0:=look_right (by simp)
 simp only[Int.toNat_zero]
 rw[this];rfl
theorem cntEq(a b:Tm):cntF 0 ((eqF a b).tms 0)=cnt 0 (a.vars 0)+cnt 0 (b.vars 0):=by
 simp[eqF,Fm.tms,Fm.tmss,cntF]
theorem nearEq{a b:Tm}(ha:a.near=true)(hb:b.near=true):(eqF a b).near=true:=by
 unfold Fm.near
 simp[eqF,Fm.tms,Fm.tmss,ha,hb]
structure SideOk (g:List Ty) (a b:Tm):Prop where
 sa:a.shape=true
 sb:b.shape=true
 ia:a.inf (g++[natT])=(natT,0)
 ib:b.inf (g++[natT])=(natT,0)
 sz:a.size+b.size≤3000
theorem SideOk.err{g:List Ty}{a b:Tm}(h:SideOk g a b):(eqF a b).err=0:=eqf_err h.sa h.sb (by have:=h.sz;omega)
theorem SideOk.near{g:List Ty}{a b:Tm}(h:SideOk g a b)(hg:g.length≤16):(eqF a b).near=true:=
 nearEq (near_of (by rw[h.ia]) h.sa (by have:=h.sz;simp;omega)) (near_of (by rw[h.ib]) h.sb (by have:=h.sz;simp;omega))
theorem SideOk.put{g:List Ty}{a b s:Tm}(h:SideOk g a b)(hg:g.length≤16)(hs:NumOk g s)(hz:1+a.size+b.size+(cnt 0 (a.vars 0)+cnt 0 (b.vars 0))*s.size≤4096):putFErr (eqF a b) 0 s=0:=by
 unfold putFErr
 rw[if_neg (by simp[h.err]),if_neg (by omega),if_neg (by simp[hs.err]),if_neg (by simp[h.near hg,hs.near (by omega)]),if_neg]
 rw[cntEq,eqF_size]
 have hp:=s.size_pos
 have hm:(cnt 0 (a.vars 0)+cnt 0 (b.vars 0))*(s.size-1)≤(cnt 0 (a.vars 0)+cnt 0 (b.vars 0))*s.size:=Nat.mul_le_mul_left _ (by omega)
 have e:(((cnt 0 (a.vars 0)+cnt 0 (b.vars 0):Nat):Int)*((s.size:Int)-1))=(((cnt 0 (a.vars 0)+cnt 0 (b.vars 0))*(s.size-1):Nat):Int):=by
  rw[Int.natCast_mul];congr 1;omega
 rw[e]
 omega
def symP(s:Tm)(p:Pf):Pf:=substP (eqF (vT 0) (s.re (liftG 0 1) 0)) p (reflP s)
def transP(s:Tm)(p q:Pf):Pf:=substP (eqF (s.re (liftG 0 1) 0) (vT 0)) q p
def congP(g s:Tm)(p:Pf):Pf:=substP (eqF (apT (g.re (liftG 0 1) 0) (s.re (liftG 0 1) 0)) (apT (g.re (liftG 0 1) 0) (vT 0))) p (reflP (apT g s))
def injP(s:Tm)(p:Pf):Pf:=substP (eqF (s.re (liftG 0 1) 0) (apT predT (vT 0))) p (reflP s)
def eitherT(s t n:Tm):Tm:= .mk 6 0 natT [s,lmT natT (lmT natT (t.re (liftG 0 2) 0)),n]
def absurdP(p:Pf):Pf:=substP (eqF zT (eitherT zT (sT zT) (vT 0))) p (reflP zT)
theorem NumOk.refl{c:Ck}(hc:c.ok){s:Tm}(h:NumOk c.tys s):infP (reflP s) c=(eqF s s,[],0):=
 refl_inf (kTyp_of hc h.err h.inf) (eqf_err h.shape h.shape (by have:=h.size;omega))
structure FunOk (g:List Ty) (f:Tm):Prop where
 err:f.err=0
 inf:f.inf g=(funT natT natT,0)
 size:f.size≤500
def Dk.fms:Nat→Dk→List Ty→List Fm×Dk
 |0,d,_=>([],d)
 |n+1,d,g=>((Dk.fm 2 d g).1::(Dk.fms n (Dk.fm 2 d g).2 g).1,(Dk.fms n (Dk.fm 2 d g).2 g).2)
def Dk.sqN(d:Dk):Nat:=(d.ctx.2.next 3).1.toNat
def Dk.sqH(d:Dk):List Fm:=(Dk.fms d.sqN (d.ctx.2.next 3).2 d.ctx.1).1
def Dk.sqD(d:Dk):Dk:=(Dk.fms d.sqN (d.ctx.2.next 3).2 d.ctx.1).2
def Dk.sqC(d:Dk):Ck:=⟨[],d.ctx.1,d.sqH⟩
def Dk.w0(d:Dk):Tm×Dk:=Dk.tm 3 d.sqD d.ctx.1 natT
def Dk.w1(d:Dk):Tm×Dk:=Dk.tm 3 d.w0.2 d.ctx.1 natT
def Dk.w2(d:Dk):Tm×Dk:=Dk.tm 3 d.w1.2 d.ctx.1 natT
def Dk.wH(d:Dk):List Fm:=d.sqH++[eqF d.w0.1 d.w1.1,eqF d.w1.1 d.w2.1]
def Dk.wC(d:Dk):Ck:=⟨[],d.ctx.1,d.wH⟩
abbrev hypP(i:Int):Pf:= .mk 1 i (.mk 0 []) [] [] []
theorem reflP_err{s:Tm}(h:s.err=0):(reflP s).err=0:=by
 have h1:=(Tm.err_iff s).1 h
 rw[Pf.err_iff]
 refine⟨?_,?_,?_⟩
 ·rw [Pf.shape_eq]
  simp[reflP,Pf.head,ndP,h1.1,Ty.isNo,Ty.kind,Ty.args]
 ·rw [Pf.small_eq];simp[reflP,h1.2]
 ·rw [Pf.size_eq];simp[reflP];omega
theorem reflP_size(s:Tm):(reflP s).size=1+s.size:=by rw[Pf.size_eq];simp[reflP]
def lim(e:Int):Prop:=e=0∨e=4∨e=5∨e=3
def Dk.nH(d:Dk):List Fm:=d.wH++[eqF (sT d.w0.1) (sT d.w2.1),eqF zT (sT d.w1.1)]
def Dk.nC(d:Dk):Ck:=⟨[],d.ctx.1,d.nH⟩
theorem re_pt{g g':Int→Int→Tm}(h:∀i c,g i c=g' i c)(t:Tm)(b:Int):t.re g b=t.re g' b:=by
 have:g=g':=funext fun i=>funext fun c=>h i c
 rw[this]
theorem Fm.re_shift(G:Int→Tm→Tm)(c:Int)(f:Fm):∀b,f.re G (b+c)=f.re (fun b t=>G (b+c) t) b:=by
 induction f using Fm.ind with
 |h f ih=>
  intro b
  have e:upF f.kind (b+c)=upF f.kind b+c:=by simp only[upF];split<;>omega
  rw[Fm.re_eq,Fm.re_eq,e]
  congr 1
  exact List.map_congr_left fun x hx=>ih x hx _
theorem Fm.re_pt{G G':Int→Tm→Tm}(h:∀b t,0≤b→G b t=G' b t)(f:Fm):f.re G 0=f.re G' 0:=by
 refine Fm.re_congr f 0 fun p hp=>h _ _ ?_
 exact tms_snd p hp
theorem fput_at(f:Fm)(a:Int)(s:Tm):f.put a s=f.re (fun b t=>t.re (putG (a+b) s) 0) 0:=rfl
theorem put_qu{k:Int}(hk:quantK k=true)(s:Ty)(f:Fm)(a:Int)(x:Tm):(quF k s f).put a x=quF k s (f.put (a+1) x):=by
 rw[fput_at,Fm.re_eq]
 simp only[quF,Fm.kind,Fm.ty,Fm.terms,Fm.args,List.map_nil,List.map_cons]
 congr 2
 have e:upF k 0=0+1:=by simp[upF,hk]
 rw[e,Fm.re_shift,fput_at]
 refine Fm.re_pt (fun b t _=> ?_) f
 rw[show a+(b+1)=a+1+b by omega]
structure Gf (g:List Ty) (f:Fm) (n:Nat):Prop where
 sh:f.shape=true
 sz:f.size≤n
 ok:f.okT g
structure Gt (g:List Ty) (s:Tm) (T:Ty) (m:Nat):Prop where
 sh:s.shape=true
 sz:s.size≤m
 inf:s.inf g=(T,0)
theorem Gf.err{g:List Ty}{f:Fm}{n:Nat}(h:Gf g f n)(hn:n≤4096):f.err=0:=(Fm.err_iff f).2 ⟨h.sh,Nat.le_trans h.sz hn⟩
theorem Gt.err{g:List Ty}{s:Tm}{T:Ty}{m:Nat}(h:Gt g s T m)(hn:m≤4096):s.err=0:=(Tm.err_iff s).2 ⟨h.sh,Nat.le_trans h.sz hn⟩
theorem cntF_le_size(f:Fm)(a:Int):cntF a (f.tms 0)≤f.size:=by
 have h1:=cntF_le a (f.tms 0)
 have h2:=tms_size f 0
 omega
theorem Gf.put{g:List Ty}{f:Fm}{n m:Nat}{s:Tm}{T:Ty}(hf:Gf (g++[T]) f n)(hs:Gt g s T m)(hm:1≤m)(hz:n*m≤4096)(hg:g.length≤20):
 putFErr f 0 s=0∧Gf g (f.put 0 s) (n*m):=by
 have hn:n≤n*m:=Nat.le_mul_of_pos_right n hm
 have ef:=hf.err (by omega)
 have hp:=s.size_pos
 have p2:=f.size_pos
 have hmz:m≤4096:=by
  have:1*m≤n*m:=Nat.mul_le_mul_right m (by have:=hf.sz;omega)
  omega
 have es:=hs.err hmz
 have nf:=(fokT_near hf.ok ef (by simp;omega)).1
 have ns:=near_of (t:=s) (g:=g) (by rw[hs.inf]) hs.sh (by have:=hs.sz;omega)
 have hc:=cntF_le_size f 0
 have h1:cntF 0 (f.tms 0)*(s.size-1)≤n*(m-1):=Nat.mul_le_mul (Nat.le_trans hc hf.sz) (by have:=hs.sz;omega)
 have h2:n*(m-1)+n=n*m:=by rw[←Nat.mul_succ];congr 1;omega
 have h3:=hf.sz
 refine⟨?_,fput_shape (by omega) hs.sh hf.sh,?_,?_⟩
 ·unfold putFErr
  rw[if_neg (by simp[ef]),if_neg (by omega),if_neg (by simp[es]),if_neg (by simp[nf,ns]),if_neg]
  have e:((cntF 0 (f.tms 0):Int)*((s.size:Int)-1))=((cntF 0 (f.tms 0)*(s.size-1):Nat):Int):=by
   rw[Int.natCast_mul];congr 1;omega
  rw[e]
  omega
 ·have h4:=fput_size 0 s hs.sh f hf.sh 0
  have h5:(f.put 0 s).size=f.size+cntF 0 (f.tms 0)*(s.size-1):=h4
  omega
 ·have h6:=fokT_put 0 s g T hs.sh hs.inf f [] 0 rfl hf.sh (by simpa using hf.ok)
  have h7:(f.put 0 s).okT (g++[]):=h6
  simpa using h7
theorem Gf.lft{g h:List Ty}(m:List Ty){f:Fm}{n:Nat}(hf:Gf (g++h) f n):Gf (g++m++h) (f.lft h.length m.length) n:=
 have hk:=lft_keeps hf.sh (fr:=h.length) (by_:=m.length) (by omega)
 ⟨hk.1,by rw[hk.2.1];exact hf.sz,lft_okTs m hf.sh hf.ok⟩
theorem Gt.zero(g:List Ty):Gt g zT natT 1:=⟨by decide,by decide,zT_inf g⟩
theorem Gt.nil(g:List Ty):Gt g nilM listT 1:=⟨by decide,by decide,nil_inf g⟩
theorem Gt.v0(g:List Ty)(u:Ty):Gt (g++[u]) (vT 0) u 1:=⟨by decide,by decide,v0_inf g u⟩
theorem Gt.v1(g:List Ty)(u w:Ty):Gt (g++[u,w]) (vT 1) u 1:=by
 refine⟨by decide,by decide,?_⟩
 rw[inf_var' _ _ (by omega),if_neg (by simp;omega)]
 have:look (g++[u,w]) 1=look [u,w] 1:=look_right (by simp)
 simp only[show(1:Int).toNat=1 from rfl]
 rw[this];rfl
theorem Gt.cons(g:List Ty):Gt (g++[natT,listT]) consM listT 3:=by
 have h1:=(Gt.v1 g natT listT).inf
 have h0:(vT 0).inf (g++[natT,listT])=(listT,0):=by
  have:=(Gt.v0 (g++[natT]) listT).inf
  simpa using this
 exact⟨by decide,by decide,by
  have e:consM.inf (g++[natT,listT])=(listT,0):=by simp[consM,Tm.inf,Tm.infs,rule,h0,h1]
  exact e⟩
def numbersP(f:Fm)(p q:Pf):Pf:= .mk 8 0 natT [] [] [.mk 16 0 (.mk 0 []) [vT 0] [f.lft 1 1] [p,.mk 9 0 (.mk 0 []) [vT 0] [] [q]]]
def listsP(f:Fm)(p q:Pf):Pf:= .mk 8 0 listT [] [] [.mk 17 0 (.mk 0 []) [vT 0] [f.lft 1 1] [p,.mk 9 0 (.mk 0 []) [vT 0] [] [.mk 9 0 (.mk 0 []) [vT 1] [] [q]]]]
end Go.Ab
namespace Go.Ab
open Go
set_option linter.all false
set_option maxHeartbeats 1000000
def Dk.cf(d:Dk):Fm×Dk:=Dk.fm 2 d.sqD (d.ctx.1++[natT])
def Dk.cg(d:Dk):Fm×Dk:=Dk.fm 2 d.cf.2 (d.ctx.1++[listT])
def zeroH(f:Fm):Fm:=f.put 0 zT
def nextH(f:Fm):Fm:=(f.lft 1 1).put 0 (sT (vT 0))
def noneH(f:Fm):Fm:=f.put 0 nilM
def consH(f:Fm):Fm:=(f.lft 1 2).put 0 consM
def Dk.cH(d:Dk):List Fm:=d.sqH++[zeroH d.cf.1,quF 4 natT (nextH d.cf.1),noneH d.cg.1,quF 4 natT (quF 4 listT (consH d.cg.1))]
def Dk.cC(d:Dk):Ck:=⟨[],d.ctx.1,d.cH⟩
end Go.Ab
namespace Go.Ab
open Go
set_option linter.all false
mutual
def Pf.up(fr b v:Int):Pf→Pf
 | .mk k i s ts fs zs=> .mk k i s (ts.map fun t=>t.re (liftG (fr+v) b) 0) (fs.map fun f=>f.lft (fr+(v+fvK k)) b) (Pf.ups fr b v (vaK k) zs)
def Pf.ups(fr b v w:Int):List Pf→List Pf
 |[]=>[]
 |p::l=>Pf.up fr b (if l.length=0 then v+w else v) p::Pf.ups fr b v w l
end
mutual
def Pf.lh(fr b y:Int):Pf→Pf
 | .mk k i s ts fs zs=>if k=1 then .mk 1 (if i-y≥fr then i+b else i) (.mk 0 []) [] [] [] else .mk k i s ts fs (Pf.lhs fr b y (hyK k) zs)
def Pf.lhs(fr b y w:Int):List Pf→List Pf
 |[]=>[]
 |p::l=>Pf.lh fr b (if l.length=0 then y+w else y) p::Pf.lhs fr b y w l
end
mutual
def Pf.ix(C:Int):Pf→Prop
 | .mk _ _ _ ts fs zs=>(∀t∈ts,∀p∈t.vars 0,0≤p.1∧p.1<C)∧(∀f∈fs,∀p∈f.tms 0,∀q∈p.1.vars 0,0≤q.1∧q.1<C)∧Pf.ixs C zs
def Pf.ixs(C:Int):List Pf→Prop
 |[]=>True
 |p::l=>Pf.ix C p∧Pf.ixs C l
end
theorem ixs_iff(C:Int):∀l:List Pf,Pf.ixs C l↔∀p∈l,p.ix C
 |[]=>by simp[Pf.ixs]
 |p::l=>by simp[Pf.ixs,ixs_iff C l]
theorem Pf.ix_iff(C:Int)(p:Pf):p.ix C↔(∀t∈p.terms,∀q∈t.vars 0,0≤q.1∧q.1<C)∧(∀f∈p.forms,∀q∈f.tms 0,∀r∈q.1.vars 0,0≤r.1∧r.1<C)∧∀x∈p.args,x.ix C:=by
 cases p;simp only[Pf.ix,ixs_iff];rfl
mutual
def Pf.hx(C:Int):Pf→Prop
 | .mk k i _ _ _ zs=>if k=1 then 0≤i∧i<C else Pf.hxs C zs
def Pf.hxs(C:Int):List Pf→Prop
 |[]=>True
 |p::l=>Pf.hx C p∧Pf.hxs C l
end
theorem hxs_iff(C:Int):∀l:List Pf,Pf.hxs C l↔∀p∈l,p.hx C
 |[]=>by simp[Pf.hxs]
 |p::l=>by simp[Pf.hxs,hxs_iff C l]
theorem Pf.hx_iff(C:Int)(p:Pf):p.hx C↔(p.kind=1→0≤p.index∧p.index<C)∧(p.kind≠1→∀x∈p.args,x.hx C):=by
 cases p with
 |mk k i s ts fs zs=>
  by_cases h:k=1
  ·simp [Pf.hx,h,Pf.kind,Pf.index]
  ·simp [Pf.hx,h,hxs_iff,Pf.kind,Pf.args]
end Go.Ab
namespace Go.Ab
open Go
set_option linter.all false
set_option maxHeartbeats 1000000
inductive FP:Fm→Fm→Prop
 |refl (f):FP f f
 |eq {a b b'} (h:Pst b b'):FP (eqF a b) (eqF a b')
 |two {k a a' b b'} (ha:FP a a') (hb:FP b b'):FP (twoF k a b) (twoF k a' b')
 |qu {k s a a'} (ha:FP a a'):FP (quF k s a) (quF k s a')
def lim3(e:Int):Prop:=e=0∨e=4∨e=5
theorem mtch_psd{t u:Tm}(h:Pst u t)(ht:t.err=0)(hu:u.err=0)(hn:t.near=true)(hm:u.near=true):lim3 (mtchR t u 1000):=by
 unfold mtchR
 rw[if_neg (by simp[ht]),if_neg (by simp[hu])]
 by_cases e:t=u
 ·rw [if_pos e];exact .inl rfl
 rw[if_neg e]
 have e1:normR t 1000=nrm 1000 t 0:=by unfold normR;rw[if_neg (by simp[ht]),if_neg (by simp[hn])];rfl
 have e2:normR u 1000=nrm 1000 u 0:=by unfold normR;rw[if_neg (by simp[hu]),if_neg (by simp[hm])];rfl
 rw[e1,e2]
 by_cases h1:(nrm 1000 t 0).2.2=0
 ·rw [if_neg (by simp[h1])]
  by_cases h2:(nrm 1000 u 0).2.2=0
  ·rw [if_neg (by simp[h2])]
   obtain⟨a1,a2,_⟩:=nrm_ok _ _ _ ht h1
   obtain⟨b1,b2,_⟩:=nrm_ok _ _ _ hu h2
   rw[if_pos (nf_uniq a2 b2 (h.trans a1) b1)]
   exact .inl rfl
  ·rw [if_pos h2]
   rcases nrm_lim 1000 u 0 with h|h|h
   ·exact absurd h h2
   ·exact .inr (.inl h)
   ·exact .inr (.inr h)
 ·rw [if_pos h1]
  rcases nrm_lim 1000 t 0 with h|h|h
  ·exact absurd h h1
  ·exact .inr (.inl h)
  ·exact .inr (.inr h)
theorem mtF_two(k:Int)(a b a' b':Fm):mtF (twoF k a b) (twoF k a' b')=if mtF a a'≠0 then mtF a a' else mtF b b':=by
 rw[mtF_eq,if_pos ⟨rfl,rfl⟩]
 simp only[twoF,Fm.terms_mk,Fm.args_mk,mtTs,mtFs]
 by_cases h1:mtF a a'≠0
 ·simp [h1]
 ·by_cases h2:mtF b b'≠0
  ·simp [h1,h2]
  ·simp [h1,h2];simp at h2;exact h2.symm
theorem mtF_qu(k:Int)(s:Ty)(a a':Fm):mtF (quF k s a) (quF k s a')=mtF a a':=by
 rw[mtF_eq,if_pos ⟨rfl,rfl⟩]
 simp only[quF,Fm.terms_mk,Fm.args_mk,mtTs,mtFs]
 by_cases h1:mtF a a'≠0
 ·simp [h1]
 ·simp [h1];simp at h1;exact h1.symm
theorem eq_near{g:List Ty}{a b:Tm}(h:(eqF a b).okT g)(he:(eqF a b).err=0)(hg:g.length≤100000):a.err=0∧b.err=0∧a.near=true∧b.near=true:=by
 have e1:=term_err he (t:=a) (by simp[eqF])
 have e2:=term_err he (t:=b) (by simp[eqF])
 have i:=eq_okT.1 h
 have s1:=(Tm.err_iff a).1 e1
 have s2:=(Tm.err_iff b).1 e2
 exact⟨e1,e2,near_of (by rw[i.1]) s1.1 (by omega),near_of (by rw[i.2]) s2.1 (by omega)⟩
theorem two_errs{k:Int}{a b:Fm}(h:(twoF k a b).err=0):a.err=0∧b.err=0:=⟨part_err h (by simp[twoF]),part_err h (by simp[twoF])⟩
theorem qu_errs{k:Int}{s:Ty}{a:Fm}(h:(quF k s a).err=0):a.err=0:=part_err h (by simp[quF])
theorem twoF_k{k:Int}{a b:Fm}(h:(twoF k a b).err=0):k=2∨k=3:=by
 have h1:=((Fm.err_iff _).1 h).1
 rcases fshape_kinds h1 with⟨h2,h3⟩|⟨h2,_⟩|⟨h2,h3⟩
 ·exfalso
  rw[Fm.shape_eq] at h1
  have e:(twoF k a b).kind=k:=rfl
  rw[e] at h2
  simp[twoF,Fm.head,h2,quantK] at h1
 ·exact h2
 ·exfalso
  rw[Fm.shape_eq] at h1
  have e:(twoF k a b).kind=k:=rfl
  rw[e] at h2
  have hq:=quantK_iff.2 (show 4≤k∧k≤7 by omega)
  simp[twoF,Fm.head,hq] at h1
  omega
theorem FP.mt{x f:Fm}(h:FP x f):∀{g:List Ty},x.err=0→f.err=0→x.okT g→f.okT g→g.length+f.size≤100000→lim3 (mtF x f)∧lim3 (mtF f x):=by
 induction h with
 |refl f=>intro g hx _ _ _ _;rw[mtF_refl f hx];exact⟨.inl rfl,.inl rfl⟩
 |eq h=>
  intro g hx hf ox of hg
  obtain⟨a1,a2,a3,a4⟩:=eq_near ox hx (by omega)
  obtain⟨b1,b2,b3,b4⟩:=eq_near of hf (by omega)
  rw[mtF_eqn,mtF_eqn,mtchR_refl a1,if_neg (by simp),if_neg (by simp)]
  exact⟨mtch_pst (steps:=1000) h a2 b2 a4 b4 (by omega),mtch_psd h b2 a2 b4 a4⟩
 | @two k a a' b b' ha hb iha ihb=>
   intro g hx hf ox of hg
   have hk:=twoF_k hx
   obtain⟨x1,x2⟩:=two_errs hx
   obtain⟨f1,f2⟩:=two_errs hf
   obtain⟨o1,o2⟩:=two_okT hk ox
   obtain⟨p1,p2⟩:=two_okT hk of
   have hz:=twoF_size k a' b'
   obtain⟨i1,i2⟩:=iha x1 f1 o1 p1 (by omega)
   obtain⟨j1,j2⟩:=ihb x2 f2 o2 p2 (by omega)
   rw[mtF_two,mtF_two]
   constructor
   ·split
    ·exact i1
    ·exact j1
   ·split
    ·exact i2
    ·exact j2
 | @qu k s a a' ha iha=>
   intro g hx hf ox of hg
   have hk:4≤k∧k≤7:=by
    have h1:=((Fm.err_iff _).1 hx).1
    rcases fshape_kinds h1 with⟨h2,h3⟩|⟨h2,_⟩|⟨h2,h3⟩
    ·exfalso
     rw[Fm.shape_eq] at h1
     have e:(quF k s a).kind=k:=rfl
     rw[e] at h2
     simp[quF,Fm.head,h2,quantK] at h1
    ·exfalso
     rw[Fm.shape_eq] at h1
     have e:(quF k s a).kind=k:=rfl
     rw[e] at h2
     rcases h2 with h2|h2<;>simp[quF,Fm.head,h2,quantK] at h1
    ·have e:(quF k s a).kind=k:=rfl
     rw[e] at h2;omega
   have hz:=quF_size k s a'
   obtain⟨i1,i2⟩:=iha (qu_errs hx) (qu_errs hf) (qu_okT hk ox) (qu_okT hk of) (by simp;omega)
   rw[mtF_qu,mtF_qu]
   exact⟨i1,i2⟩
mutual
def Fm.dp:Fm→Nat
 | .mk _ _ _ zs=>1+Fm.dps zs
def Fm.dps:List Fm→Nat
 |[]=>0
 |f::l=>Fm.dp f+Fm.dps l
end
def arg(f:Fm)(i:Nat):Fm:=f.args.getD i noFm
def trm(f:Fm)(i:Nat):Tm:=f.terms.getD i noTm
def exM(s t:Tm):Fm:=eqF (s.re (liftG 0 1) 0) (eitherT (s.re (liftG 0 1) 0) (t.re (liftG 0 1) 0) (vT 0))
def noth:Nat→Int→Fm→Int→Pf×Int
 |0,_,_,h=>(hypP h,-1)
 |n+1,r,f,h=>
  if r-f.num<0∨f.err≠0 then(hypP h,-1)
  else if f.kind=2 then(.mk 3 0 (.mk 0 []) [] [] [(noth n (r-f.num) (arg f 0) h).1,(noth n (noth n (r-f.num) (arg f 0) h).2 (arg f 1) h).1],(noth n (noth n (r-f.num) (arg f 0) h).2 (arg f 1) h).2)
  else if f.kind=3 then(.mk 6 0 (.mk 0 []) [] [arg f 0] [(noth n (r-f.num) (arg f 1) (h+1)).1],(noth n (r-f.num) (arg f 1) (h+1)).2)
  else if f.kind=4∨f.kind=6 then(.mk (if f.kind=6 then 12 else 8) 0 f.ty [] [] [(noth n (r-f.num) (arg f 0) h).1],(noth n (r-f.num) (arg f 0) h).2)
  else if f.kind=5∨f.kind=7 then
   if putFErr (arg f 0) 0 (dfl f.ty)≠0 then(hypP h,-1)
   else(.mk (if f.kind=7 then 14 else 10) 0 (.mk 0 []) [dfl f.ty] [f] [(noth n (r-f.num) ((arg f 0).put 0 (dfl f.ty)) h).1],(noth n (r-f.num) ((arg f 0).put 0 (dfl f.ty)) h).2)
  else(substP (exM (trm f 0) (trm f 1)) (hypP h) (reflP (trm f 0)),r-f.num)
def Acc(c:Ck)(p:Pf)(f:Fm):Prop:=(∃x,infP p c=(x,[],0)∧FP x f∧x.err=0∧x.okT c.tys)∨∃e,infP p c=noRes e∧(e=3∨e=4∨e=5)
def exfP(out p:Pf):Pf:= .mk 7 0 (.mk 0 []) [] [] [.mk 6 0 (.mk 0 []) [] [falseF] [out],p]
theorem pf_full1(k i:Int)(s:Ty)(ts:List Tm)(fs:List Fm)(zs:List Pf):(Pf.mk k i s ts fs zs).full=1+s.size+(ts.map Tm.full).sum+(fs.map Fm.full).sum+(zs.map Pf.full).sum:=Pf.full_eq _
theorem no_size:(Ty.mk 0 []).size=1:=by decide
theorem ty_size{s:Ty}(h:s.err=0):s.size≤64:=((Ty.err_iff s).1 h).2
def doneQ(p:Pf):Pf×Int:=if p.err=0 then(p,0) else(noPf,4)
def exfR(n:Nat)(f:Fm)(p:Pf):Pf×Int:=if(noth n 262144 f 0).2<0 then(noPf,4) else doneQ (exfP (noth n 262144 f 0).1 p)
def Dk.xf(d:Dk):Fm×Dk:=Dk.fm 3 d.sqD d.ctx.1
def Dk.xC(d:Dk):Ck:=⟨[],d.ctx.1,d.sqH++[falseF]⟩
def Tw:Nat→Nat→Fm→Prop
 |0,L,f=>∃s t,f=eqF s t∧f.size≤L
 |n+1,L,f=>(∃s t,f=eqF s t∧f.size≤L)∨(∃k a b,(k=2∨k=3)∧f=twoF k a b∧Tw n L a∧Tw n L b)∨∃k s a,(4≤k∧k≤7)∧s.small∧f=quF k s a∧Tw n L a
theorem Tw.size:∀{n L:Nat} {f:Fm},Tw n L f→f.size+1≤(L+1)*2^n
 |0,L,f,⟨s,t,e,h⟩=>by simp;omega
 |n+1,L,f,h=>by
  have hp:1≤2^n:=Nat.one_le_two_pow
  have h2:(L+1)*2^(n+1)=2*((L+1)*2^n):=by rw[Nat.pow_succ];simp[Nat.mul_comm,Nat.mul_left_comm]
  have h3:(L+1)*1≤(L+1)*2^n:=Nat.mul_le_mul_left _ hp
  rcases h with⟨s,t,e,h⟩|⟨k,a,b,hk,e,ha,hb⟩|⟨k,s,a,hk,hs,e,ha⟩
  ·omega
  ·have h4:=ha.size
   have h5:=hb.size
   rw[e,twoF_size];omega
  ·have h4:=ha.size
   rw[e,quF_size];omega
theorem Tw.leaf{n L:Nat}{s t:Tm}(h:(eqF s t).size≤L):Tw n L (eqF s t):=by
 cases n with
 |zero=>exact⟨s,t,rfl,h⟩
 |succ n=>exact .inl ⟨s,t,rfl,h⟩
theorem Tw.up{n L:Nat}{f:Fm}(h:Tw n L f):Tw (n+1) L f:=by
 induction n generalizing f with
 |zero=>exact .inl h
 |succ n ih=>
  rcases h with h|⟨k,a,b,hk,e,ha,hb⟩|⟨k,s,a,hk,hs,e,ha⟩
  ·exact .inl h
  ·exact .inr (.inl ⟨k,a,b,hk,e,ih ha,ih hb⟩)
  ·exact .inr (.inr ⟨k,s,a,hk,hs,e,ih ha⟩)
theorem put_two{k:Int}(hk:k=2∨k=3)(a b:Fm)(i:Int)(x:Tm):(twoF k a b).put i x=twoF k (a.put i x) (b.put i x):=by
 rw[fput_at,Fm.re_eq]
 have e:upF k 0=0:=by rcases hk with rfl|rfl<;>rfl
 simp only[twoF,Fm.kind,Fm.ty,Fm.terms,Fm.args,List.map_nil,List.map_cons]
 rw[e];rfl
theorem Tw.put:∀{n L:Nat} {f:Fm},Tw n L f→f.shape=true→∀(i:Int) (x:Tm),0≤i→x.shape=true→x.size≤3→Tw n (3*L) (f.put i x)
 |0,L,f,⟨s,t,e,h⟩,hs,i,x,hi,hx,hz=>by
  have h1:=fput_size i x hx f hs 0
  have h2:(f.put i x).size=f.size+cntF i (f.tms 0)*(x.size-1):=h1
  have h3:=cntF_le_size f i
  have h4:cntF i (f.tms 0)*(x.size-1)≤f.size*2:=Nat.mul_le_mul h3 (by omega)
  subst e
  exact⟨s.re (putG (i+0) x) 0,t.re (putG (i+0) x) 0,rfl,by omega⟩
 |n+1,L,f,h,hs,i,x,hi,hx,hz=>by
  rcases h with⟨s,t,e,h⟩|⟨k,a,b,hk,e,ha,hb⟩|⟨k,s,a,hk,hsm,e,ha⟩
  ·exact Tw.up' (Tw.put (n:=0) ⟨s,t,e,h⟩ hs i x hi hx hz)
  ·subst e
   have sa:a.shape=true:=fshape_args hs (x:=a) (by simp[twoF])
   have sb:b.shape=true:=fshape_args hs (x:=b) (by simp[twoF])
   rw[put_two hk]
   exact .inr (.inl ⟨k,_,_,hk,rfl,Tw.put ha sa i x hi hx hz,Tw.put hb sb i x hi hx hz⟩)
  ·subst e
   have sa:a.shape=true:=fshape_args hs (x:=a) (by simp[quF])
   rw[put_qu (quantK_iff.2 hk)]
   exact .inr (.inr ⟨k,s,_,hk,hsm,rfl,Tw.put ha sa (i+1) x (by omega) hx hz⟩)
where
 Tw.up' {n L:Nat} {f:Fm} (h:Tw 0 L f):Tw (n+1) L f:= .inl h
def cost:Nat→Nat→Nat
 |0,L=>L
 |n+1,L=>(L+1)*2^(n+1)+2*cost n L+cost n (3*L)
def psz:Nat→Nat→Nat
 |0,L=>3*L+8
 |n+1,L=>10+3*L+(L+1)*2^(n+1)+2*psz n L+psz n (3*L)
structure Pg (p:Pf) (n:Nat):Prop where
 sh:p.shape=true
 sm:p.small=true
 sz:p.size≤n
theorem Pg.err{p:Pf}{n:Nat}(h:Pg p n)(hn:n≤16384):p.err=0:=(Pf.err_iff p).2 ⟨h.sh,h.sm,Nat.le_trans h.sz hn⟩
theorem Pg.of{p:Pf}(h:p.err=0):Pg p p.size:=have h1:=(Pf.err_iff p).1 h;⟨h1.1,h1.2.1,Nat.le_refl _⟩
theorem Pg.mono{p:Pf}{n m:Nat}(h:Pg p n)(hn:n≤m):Pg p m:=⟨h.sh,h.sm,Nat.le_trans h.sz hn⟩
theorem pf_size1(k i:Int)(s:Ty)(ts:List Tm)(fs:List Fm)(zs:List Pf):(Pf.mk k i s ts fs zs).size=1+(ts.map Tm.size).sum+(fs.map Fm.size).sum+(zs.map Pf.size).sum:=Pf.size_eq _
theorem Pg.imp{p:Pf}{f:Fm}{n m:Nat}(hf:f.shape=true)(hz:f.size≤m)(hm:m≤4096)(hp:Pg p n):Pg (.mk 6 0 (.mk 0 []) [] [f] [p]) (1+m+n):=by
 refine⟨?_,?_,?_⟩
 ·simp [Pf.shape,Pf.shapes,Pf.head,ndP,hp.sh,hf,Ty.isNo,Ty.kind,Ty.args]
 ·simp [Pf.small,Pf.smalls,hp.sm];omega
 ·have:=hp.sz
  simp only[pf_size1,List.map_cons,List.map_nil,List.sum_cons,List.sum_nil];omega
theorem Pg.all{k:Int}{p:Pf}{s:Ty}{n:Nat}(hk:k=8∨k=12)(hs:s.err=0)(hp:Pg p n):Pg (.mk k 0 s [] [] [p]) (1+n):=by
 have ho:s.ok=true:=by
  have h1:=(Ty.err_iff s).1 hs
  simp only[Ty.ok,Bool.and_eq_true,decide_eq_true_eq];exact h1
 refine⟨?_,?_,?_⟩
 ·rcases hk with rfl|rfl<;>simp[Pf.shape,Pf.shapes,Pf.head,ndP,hp.sh,ho]
 ·simp [Pf.small,Pf.smalls,hp.sm]
 ·have:=hp.sz
  simp only[pf_size1,List.map_cons,List.map_nil,List.sum_cons,List.sum_nil];omega
theorem Pg.ex{k:Int}{p:Pf}{t:Tm}{f:Fm}{n m z:Nat}(hk:k=10∨k=14)(ht:t.shape=true)(hz:t.size≤z)(hz2:z≤4096)(hf:f.shape=true)(hm:f.size≤m)(hm2:m≤4096)(hp:Pg p n):Pg (.mk k 0 (.mk 0 []) [t] [f] [p]) (1+z+m+n):=by
 refine⟨?_,?_,?_⟩
 ·rcases hk with rfl|rfl<;>simp[Pf.shape,Pf.shapes,Pf.head,ndP,hp.sh,ht,hf,Ty.isNo,Ty.kind,Ty.args]
 ·simp [Pf.small,Pf.smalls,hp.sm];omega
 ·have:=hp.sz
  simp only[pf_size1,List.map_cons,List.map_nil,List.sum_cons,List.sum_nil];omega
theorem Pg.refl{t:Tm}{n:Nat}(ht:t.shape=true)(hz:t.size≤n)(hn:n≤4096):Pg (reflP t) (1+n):=by
 have h:=Pg.of (reflP_err (s:=t) ((Tm.err_iff t).2 ⟨ht,by omega⟩))
 rw[reflP_size] at h
 exact h.mono (by omega)
def orB(a b:Fm):Fm:=twoF 2 (twoF 3 zeroF (a.lft 0 1)) (twoF 3 (notF zeroF) (b.lft 0 1))
def orA(a b:Fm):Fm:=orF (a.lft 0 1) (b.lft 0 1)
def impEP(p q:Pf):Pf:= .mk 7 0 (.mk 0 []) [] [] [p,q]
def impP(f:Fm)(p:Pf):Pf:= .mk 6 0 (.mk 0 []) [] [f] [p]
def andP(p q:Pf):Pf:= .mk 3 0 (.mk 0 []) [] [] [p,q]
def someP(f:Fm)(t:Tm)(p:Pf):Pf:= .mk 10 0 (.mk 0 []) [t] [f] [p]
def leftP(a b:Fm)(i:Int)(x:Pf):Pf:=someP (orA a b) zT (andP (impP (eqF zT zT) (hypP (i+1))) (impP (notF (eqF zT zT)) (exfP x (impEP (hypP 0) (reflP zT)))))
def rightP(a b:Fm)(i:Int)(x:Pf):Pf:=someP (orA a b) (sT zT) (andP (impP (eqF (sT zT) zT) (exfP x (symP (sT zT) (hypP 0)))) (impP (notF (eqF (sT zT) zT)) (hypP (i+1))))
def knownF(x:Tm)(a b:Fm)(n:Int):Fm:=twoF 2 (twoF 3 (eqF x zT) (a.lft 0 n)) (twoF 3 (notF (eqF x zT)) (b.lft 0 n))
def caseF(a b c:Fm):Fm:=twoF 3 (knownF (vT 0) a b 2) (c.lft 0 2)
def nxT:Tm:=sT (vT 0)
def andLP(p:Pf):Pf:= .mk 4 0 (.mk 0 []) [] [] [p]
def andRP(p:Pf):Pf:= .mk 5 0 (.mk 0 []) [] [] [p]
def caseB(a b:Fm)(q:Pf):Pf:=impP (knownF zT a b 1) (impEP q (impEP (andLP (hypP 0)) (reflP zT)))
def difP:Pf:=impP (eqF nxT zT) (absurdP (symP nxT (hypP 0)))
def caseS(a b:Fm)(r:Pf):Pf:=impP (knownF nxT a b 2) (impEP r (impEP (andRP (hypP 0)) difP))
def indP(f:Fm)(t:Tm)(p q:Pf):Pf:= .mk 16 0 (.mk 0 []) [t] [f] [p,q]
def casesP(a b c:Fm)(p q r:Pf):Pf:= .mk 11 0 (.mk 0 []) [] [] [p,impEP (indP (caseF a b c) (vT 0) (caseB a b q) (caseS a b r)) (hypP 0)]
theorem Pg.some{p:Pf}{t:Tm}{f:Fm}{n m z:Nat}(ht:t.shape=true)(hz:t.size≤z)(hz2:z≤4096)(hf:f.shape=true)(hm:f.size≤m)(hm2:m≤4096)(hp:Pg p n):Pg (someP f t p) (1+z+m+n):=Pg.ex (.inl rfl) ht hz hz2 hf hm hm2 hp
def Dk.oA(d:Dk):Fm×Dk:=Dk.fm 2 d.sqD d.ctx.1
def Dk.oB(d:Dk):Fm×Dk:=Dk.fm 2 d.oA.2 d.ctx.1
def Dk.oC(d:Dk):Fm×Dk:=Dk.fm 1 d.oB.2 d.ctx.1
def Dk.oH(d:Dk):List Fm:=d.sqH++[d.oA.1,d.oB.1,orA d.oA.1 d.oB.1,twoF 3 d.oA.1 d.oC.1,twoF 3 d.oB.1 d.oC.1]
def Dk.oK(d:Dk):Ck:=⟨[],d.ctx.1,d.oH⟩
def Dk.oL(d:Dk):Pf:=leftP d.oA.1 d.oB.1 4 (noth d.oB.1.dp 262144 d.oB.1 0).1
def Dk.oR(d:Dk):Pf:=rightP d.oA.1 d.oB.1 3 (noth d.oA.1.dp 262144 d.oA.1 0).1
def Dk.oX(d:Dk):Pf:=casesP d.oA.1 d.oB.1 d.oC.1 (hypP 2) (hypP 3) (hypP 3)
end Go.Ab
namespace Go.Ab
open Go
set_option linter.all false
abbrev w64(n:Int):Int:=IntKind.i64.wrap n
def liftW(fr by_:Int)(i b:Int):Tm:= .mk 1 (if w64 (i-b)≥fr then w64 (i+by_) else i) (.mk 0 []) []
def Tm.lw(t:Tm)(fr by_:Int):Tm:=t.re (liftW fr by_) 0
def Fm.lw(f:Fm)(fr by_:Int):Fm:=f.re (fun b t=>t.lw (fr+b) by_) 0
mutual
def Pf.uw(fr b v:Int):Pf→Pf
 | .mk k i s ts fs zs=> .mk k i s (ts.map fun t=>t.lw (fr+v) b) (fs.map fun f=>f.lw (fr+(v+fvK k)) b) (Pf.uws fr b v (vaK k) zs)
def Pf.uws(fr b v w:Int):List Pf→List Pf
 |[]=>[]
 |p::l=>Pf.uw fr b (if l.length=0 then v+w else v) p::Pf.uws fr b v w l
end
mutual
def Pf.hw(fr b y:Int):Pf→Pf
 | .mk k i s ts fs zs=>if k=1 then .mk 1 (if w64 (i-y)≥fr then w64 (i+b) else i) (.mk 0 []) [] [] [] else .mk k i s ts fs (Pf.hws fr b y (hyK k) zs)
def Pf.hws(fr b y w:Int):List Pf→List Pf
 |[]=>[]
 |p::l=>Pf.hw fr b (if l.length=0 then y+w else y) p::Pf.hws fr b y w l
end
mutual
def Pf.nd:Pf→Prop
 | .mk k _ _ _ _ zs=>(∃n,ndP k=some n∧zs.length=n.args)∧Pf.nds zs
def Pf.nds:List Pf→Prop
 |[]=>True
 |p::l=>Pf.nd p∧Pf.nds l
end
def Pf.uph(p:Pf)(v h:Int):Pf:=(p.uw 0 v 0).hw 0 h 0
def symW(s:Tm)(p:Pf):Pf:=substP (eqF (vT 0) (s.lw 0 1)) p (reflP s)
def transW(s:Tm)(p q:Pf):Pf:=substP (eqF (s.lw 0 1) (vT 0)) q p
def congW(g s:Tm)(p:Pf):Pf:=substP (eqF (apT (g.lw 0 1) (s.lw 0 1)) (apT (g.lw 0 1) (vT 0))) p (reflP (apT g s))
def injW(s:Tm)(p:Pf):Pf:=substP (eqF (s.lw 0 1) (apT predT (vT 0))) p (reflP s)
def eitherW(s t n:Tm):Tm:= .mk 6 0 natT [s,lmT natT (lmT natT (t.lw 0 2)),n]
def exW(s t:Tm):Fm:=eqF (s.lw 0 1) (eitherW (s.lw 0 1) (t.lw 0 1) (vT 0))
def nothW:Nat→Int→Fm→Int→Pf×Int
 |0,_,_,h=>(hypP h,-1)
 |n+1,r,f,h=>
  if r-f.num<0∨f.err≠0 then(hypP h,-1)
  else if f.kind=2 then(.mk 3 0 (.mk 0 []) [] [] [(nothW n (r-f.num) (arg f 0) h).1,(nothW n (nothW n (r-f.num) (arg f 0) h).2 (arg f 1) h).1],(nothW n (nothW n (r-f.num) (arg f 0) h).2 (arg f 1) h).2)
  else if f.kind=3 then(.mk 6 0 (.mk 0 []) [] [arg f 0] [(nothW n (r-f.num) (arg f 1) (h+1)).1],(nothW n (r-f.num) (arg f 1) (h+1)).2)
  else if f.kind=4∨f.kind=6 then(.mk (if f.kind=6 then 12 else 8) 0 f.ty [] [] [(nothW n (r-f.num) (arg f 0) h).1],(nothW n (r-f.num) (arg f 0) h).2)
  else if f.kind=5∨f.kind=7 then
   if putFErr (arg f 0) 0 (dfl f.ty)≠0 then(hypP h,-1)
   else(.mk (if f.kind=7 then 14 else 10) 0 (.mk 0 []) [dfl f.ty] [f] [(nothW n (r-f.num) ((arg f 0).put 0 (dfl f.ty)) h).1],(nothW n (r-f.num) ((arg f 0).put 0 (dfl f.ty)) h).2)
  else(substP (exW (trm f 0) (trm f 1)) (hypP h) (reflP (trm f 0)),r-f.num)
def lftW(a b:Fm)(p x:Pf):Pf:=someP (orA a b) zT (andP (impP (eqF zT zT) (p.uph 0 1)) (impP (notF (eqF zT zT)) (exfP x (impEP (hypP 0) (reflP zT)))))
def rgtW(a b:Fm)(p x:Pf):Pf:=someP (orA a b) (sT zT) (andP (impP (eqF (sT zT) zT) (exfP x (symW (sT zT) (hypP 0)))) (impP (notF (eqF (sT zT) zT)) (p.uph 0 1)))
def knownW(x:Tm)(a b:Fm)(n:Int):Fm:=twoF 2 (twoF 3 (eqF x zT) (a.lw 0 n)) (twoF 3 (notF (eqF x zT)) (b.lw 0 n))
def caseWF(a b c:Fm):Fm:=twoF 3 (knownW (vT 0) a b 2) (c.lw 0 2)
def caseWB(a b:Fm)(q:Pf):Pf:=impP (knownW zT a b 1) (impEP q (impEP (andLP (hypP 0)) (reflP zT)))
def difW:Pf:=impP (eqF nxT zT) (absurdP (symW nxT (hypP 0)))
def caseWS(a b:Fm)(r:Pf):Pf:=impP (knownW nxT a b 2) (impEP r (impEP (andRP (hypP 0)) difW))
def casesW(a b c:Fm)(p q r:Pf):Pf:= .mk 11 0 (.mk 0 []) [] [] [p,impEP (indP (caseWF a b c) (vT 0) (caseWB a b (q.uph 1 2)) (caseWS a b (r.uph 2 3))) (hypP 0)]
def numbersW(f:Fm)(p q:Pf):Pf:= .mk 8 0 natT [] [] [.mk 16 0 (.mk 0 []) [vT 0] [f.lw 1 1] [p.uph 1 0,.mk 9 0 (.mk 0 []) [vT 0] [] [q.uph 2 1]]]
def listsW(f:Fm)(p q:Pf):Pf:= .mk 8 0 listT [] [] [.mk 17 0 (.mk 0 []) [vT 0] [f.lw 1 1] [p.uph 1 0,.mk 9 0 (.mk 0 []) [vT 0] [] [.mk 9 0 (.mk 0 []) [vT 1] [] [q.uph 3 1]]]]
def sameF(s t:Tm):Fm:=eqF s t
def decF(s t:Tm):Fm:=orA (sameF s t) (notF (sameF s t))
def elP(s t:Tm)(p:Pf):Pf:=lftW (sameF s t) (notF (sameF s t)) p (nothW (notF (sameF s t)).dp 262144 (notF (sameF s t)) 0).1
def erP(s t:Tm)(p:Pf):Pf:=rgtW (sameF s t) (notF (sameF s t)) (impP (sameF s t) p) (nothW (sameF s t).dp 262144 (sameF s t) 0).1
def allIP(s:Ty)(p:Pf):Pf:= .mk 8 0 s [] [] [p]
def allEP(t:Tm)(p:Pf):Pf:= .mk 9 0 (.mk 0 []) [t] [] [p]
def eq1P:Pf:=numbersW (decF zT (vT 0)) (elP zT zT (reflP zT)) (allIP natT (erP zT (sT (vT 0)) (absurdP (hypP 0))))
def sucT:Tm:=lmT natT (sT (vT 0))
def eqEP:Pf:=impP (sameF (vT 1) (vT 0)) (elP (sT (vT 1)) (sT (vT 0)) (congW sucT (vT 1) (hypP 0)))
def eqDP:Pf:=impP (notF (sameF (vT 1) (vT 0))) (erP (sT (vT 1)) (sT (vT 0)) (impEP (hypP 1) (injW (vT 1) (hypP 0))))
def eqBP:Pf:=casesW (sameF (vT 1) (vT 0)) (notF (sameF (vT 1) (vT 0))) (decF (sT (vT 1)) (sT (vT 0))) (allEP (vT 0) (hypP 0)) eqEP eqDP
def eq2P:Pf:=numbersW (decF (sT (vT 1)) (vT 0)) (erP (sT (vT 0)) zT (absurdP (symW (sT (vT 0)) (hypP 0)))) (allIP natT eqBP)
def eqP:Pf:=allIP natT (.mk 16 0 (.mk 0 []) [vT 0] [quF 4 natT (decF (vT 1) (vT 0))] [eq1P,eq2P])
def eqAll:Fm:=quF 4 natT (quF 4 natT (decF (vT 1) (vT 0)))
def Fm.fvl(f:Fm)(b:Int):List Int:=(f.tms b).flatMap fun p=>fre (p.1.vars p.2)
mutual
def Pf.fvl(b:Int):Pf→List Int
 | .mk k _ _ ts fs zs=>ts.flatMap (fun t=>fre (t.vars b))++fs.flatMap (fun f=>f.fvl (b+fvK k))++(Pf.fvls b (vaK k) zs).flatten
def Pf.fvls(b w:Int):List Pf→List (List Int)
 |[]=>[]
 |p::l=>Pf.fvl (if l.length=0 then b+w else b) p::Pf.fvls b w l
end
mutual
def Pf.hyl(y:Int):Pf→List Int
 | .mk k i _ _ _ zs=>(if k=1∧i≥y then [i-y] else [])++(Pf.hyls y (hyK k) zs).flatten
def Pf.hyls(y w:Int):List Pf→List (List Int)
 |[]=>[]
 |p::l=>Pf.hyl (if l.length=0 then y+w else y) p::Pf.hyls y w l
end
mutual
def Pf.lml:Pf→List Int
 | .mk k i _ _ _ zs=>(if k=2 then [i] else [])++(Pf.lmls zs).flatten
def Pf.lmls:List Pf→List (List Int)
 |[]=>[]
 |p::l=>Pf.lml p::Pf.lmls l
end
def Tm.ixr(t:Tm):Prop:=∀b,∀p∈t.vars b,0≤p.1∧p.1<9223372036854775808
def Fm.ixr(f:Fm):Prop:=∀b,∀p∈f.tms b,p.1.ixr
mutual
def Pf.ixr:Pf→Prop
 | .mk _ i _ ts fs zs=>(0≤i∧i<9223372036854775808)∧(∀t∈ts,t.ixr)∧(∀f∈fs,f.ixr)∧Pf.ixrs zs
def Pf.ixrs:List Pf→Prop
 |[]=>True
 |p::l=>Pf.ixr p∧Pf.ixrs l
end
def hypsI(p:Pf):List Int:=sortI (nub [] (p.hyl 0))
def lemsI(p:Pf):List Int:=sortI (nub [] p.lml)
def usesP(p:Pf):List Int:=sortI (nub [] (p.fvl 0))
def usesF(f:Fm):List Int:=sortI (nub [] (f.fvl 0))
mutual
def Pf.cn(most:Int):Pf→Int
 | .mk _ _ h ts fs zs=>Pf.cns most (Fm.cns most (Tm.cns most (1+h.cn (most-1)) ts) fs) zs
def Pf.cns(most n:Int):List Pf→Int
 |[]=>n
 |x::l=>if n≤most then Pf.cns most (n+x.cn (most-n)) l else n
end
def Tm.ixb(t:Tm):Prop:=∀q∈t.vars 0,0≤q.1∧q.1<10000
def Fm.ixb(f:Fm):Prop:=∀q∈f.tms 0,∀r∈q.1.vars 0,0≤r.1∧r.1<10000
theorem okT_ix(f:Fm):∀(g:List Ty) (b:Int),f.shape=true→f.okT g→∀q∈f.tms b,∀r∈q.1.vars 0,0≤r.1∧r.1<g.length+f.size:=by
 induction f using Fm.ind with
 |h f ih=>
  intro g b hs h q hq r hr
  rw[f.tms_eq b,List.mem_append] at hq
  rw[Fm.okT_iff] at h
  have hsz:=f.size_eq
  rcases hq with hq|hq
  ·obtain ⟨t,ht,rfl⟩:=List.mem_map.1 hq
   have hst:=fshape_terms hs ht
   have h1:=lsum_mem Tm.size ht
   exact⟨t.vars_nonneg hst 0 r hr,vars_bound t g 0 (g.length+f.size) (by rw[h.1 t ht]) hst (by omega) r hr⟩
  ·obtain ⟨x,hx,hq⟩:=List.mem_flatMap.1 hq
   have h1:=lsum_mem Fm.size hx
   have hl:(ctxF g f).length≤g.length+1:=by unfold ctxF;split<;>simp
   have:=ih x hx _ _ (fshape_args hs hx) (h.2 x hx) q hq r hr
   omega
def TmI(t:Tm):Prop:=t.shape=true∧t.ixb∧t.full≤300000
def FmI(f:Fm):Prop:=f.shape=true∧f.ixb∧f.full≤300000
theorem TmI.of{g:List Ty}{t:Tm}{T:Ty}(he:t.err=0)(hi:t.inf g=(T,0))(hg:g.length≤20):TmI t:=by
 obtain⟨h1,h2⟩:=(Tm.err_iff t).1 he
 have h3:=terr_full he
 refine⟨h1,fun q hq=>⟨t.vars_nonneg h1 0 q hq,?_⟩,by omega⟩
 have:=vars_bound t g 0 (g.length+t.size) (by rw[hi]) h1 (by omega) q hq
 omega
theorem FmI.of{g:List Ty}{f:Fm}(he:f.err=0)(ho:f.okT g)(hg:g.length≤20):FmI f:=by
 obtain⟨h1,h2⟩:=(Fm.err_iff f).1 he
 have h3:=ferr_full he
 refine⟨h1,fun q hq r hr=> ?_,by omega⟩
 have:=okT_ix f g 0 h1 ho q hq r hr
 omega
mutual
def Pf.lx(C:Int):Pf→Prop
 | .mk k i _ _ _ zs=>(k=2→0≤i∧i<C)∧Pf.lxs C zs
def Pf.lxs(C:Int):List Pf→Prop
 |[]=>True
 |p::l=>Pf.lx C p∧Pf.lxs C l
end
theorem lxs_iff(C:Int):∀l:List Pf,Pf.lxs C l↔∀p∈l,p.lx C
 |[]=>by simp[Pf.lxs]
 |p::l=>by simp[Pf.lxs,lxs_iff C l]
theorem Pf.lx_iff(C:Int)(p:Pf):p.lx C↔(p.kind=2→0≤p.index∧p.index<C)∧∀x∈p.args,x.lx C:=by cases p;simp only[Pf.lx,lxs_iff];rfl
structure Made (n:Nat) (p:Pf):Prop where
 shape:p.shape=true
 full:p.full≤n
 ix:p.ix 10000
 hx:p.hx 10000
 lx:p.lx 10000
theorem Made.up{n m:Nat}{p:Pf}(h:Made n p)(hm:n≤m):Made m p:=⟨h.shape,Nat.le_trans h.full hm,h.ix,h.hx,h.lx⟩
theorem Made.mk'{k i:Int}{s:Ty}{ts:List Tm}{fs:List Fm}{zs:List Pf}{nd:Nd}{n:Nat}(hn:ndP k=some nd)(h1:ts.length=nd.terms)(h2:fs.length=nd.forms)(h3:zs.length=nd.args)
 (hi:0≤i∧i<10000) (hi2:nd.index=true∨i=0) (hs:if nd.typ=true then s.ok=true else s.isNo=true) (hk:k=1→zs=[])
 (ht:∀t∈ts,TmI t) (hf:∀f∈fs,FmI f) (hz:∀x∈zs,∃m,Made m x) (hfull:(Pf.mk k i s ts fs zs).full≤n):Made n (Pf.mk k i s ts fs zs):=by
 refine⟨?_,hfull,(Pf.ix_iff _ _).2 ⟨fun t h=>(ht t h).2.1,fun f h=>(hf f h).2.1,fun x h=> ?_⟩,(Pf.hx_iff _ _).2 ⟨fun _=>hi,fun _ x h=> ?_⟩,(Pf.lx_iff _ _).2 ⟨fun _=>hi,fun x h=> ?_⟩⟩
 ·rw [Pf.shape_eq]
  simp only[Bool.and_eq_true,List.all_eq_true]
  refine⟨⟨⟨?_,fun t h=>(ht t h).1⟩,fun f h=>(hf f h).1⟩,fun x h=> ?_⟩
  ·unfold Pf.head
   simp only[Pf.kind_mk,Pf.terms_mk,Pf.forms_mk,Pf.args_mk,Pf.index_mk,Pf.ty_mk,hn,h1,h2,h3,beq_self_eq_true,Bool.true_and,hi.1,decide_true]
   rw[Bool.and_eq_true]
   constructor
   ·rcases hi2 with h|h
    ·rw [h];rfl
    ·rw [h];simp
   ·by_cases hty:nd.typ=true
    ·rw [if_pos hty] at hs ⊢;exact hs
    ·rw [if_neg hty] at hs ⊢;exact hs
  ·obtain ⟨m,hm⟩:=hz x h
   exact hm.shape
 ·obtain ⟨m,hm⟩:=hz x h
  exact hm.ix
 ·obtain ⟨m,hm⟩:=hz x h
  exact hm.hx
 ·obtain ⟨m,hm⟩:=hz x h
  exact hm.lx
theorem ok_of_err{s:Ty}(h:s.err=0):s.ok=true:=ok_of ((Ty.err_iff s).1 h).1 ((Ty.err_iff s).1 h).2
theorem one_in{α:Type}{P:α→Prop}{a:α}(h:P a):∀x∈[a],P x:=fun x hx=>by simp only[List.mem_singleton] at hx;subst hx;exact h
theorem two_in{α:Type}{P:α→Prop}{a b:α}(h:P a)(h':P b):∀x∈[a,b],P x:=fun x hx=>by
 simp only[List.mem_cons,List.not_mem_nil,or_false] at hx
 rcases hx with rfl|rfl
 ·exact h
 ·exact h'
theorem nil_in{α:Type}{P:α→Prop}:∀x∈([]:List α),P x:=fun x hx=>by cases hx
theorem Made.one{k:Int}(hk:k=4∨k=5∨k=20){n:Nat}{p:Pf}(hp:Made n p):Made (n+2) (.mk k 0 (.mk 0 []) [] [] [p]):=by
 have h:=hp.full
 refine .mk' (nd:=⟨0,0,1,false,false⟩) ?_ rfl rfl rfl (by omega) (.inr rfl) rfl (fun h=>by omega) nil_in nil_in (one_in ⟨_,hp⟩) (by rw[pf_full1,no_size];simp;omega)
 rcases hk with rfl|rfl|rfl<;>rfl
theorem Made.imp{f:Fm}(hf:FmI f){n:Nat}{p:Pf}(hp:Made n p):Made (n+300002) (.mk 6 0 (.mk 0 []) [] [f] [p]):=by
 have h:=hp.full
 have h':=hf.2.2
 exact .mk' (nd:=⟨0,1,1,false,false⟩) rfl rfl rfl rfl (by omega) (.inr rfl) rfl (fun h=>by omega) nil_in (one_in hf) (one_in ⟨_,hp⟩) (by rw[pf_full1,no_size];simp;omega)
theorem Made.all{k:Int}(hk:k=8∨k=12){s:Ty}(hs:s.err=0){n:Nat}{p:Pf}(hp:Made n p):Made (n+65) (.mk k 0 s [] [] [p]):=by
 have h:=hp.full
 have h':=ty_size hs
 refine .mk' (nd:=⟨0,0,1,false,true⟩) ?_ rfl rfl rfl (by omega) (.inr rfl) (ok_of_err hs) (fun h=>by omega) nil_in nil_in (one_in ⟨_,hp⟩) (by rw[pf_full1];simp;omega)
 rcases hk with rfl|rfl<;>rfl
theorem Made.at_{k:Int}(hk:k=9∨k=13){t:Tm}(ht:TmI t){n:Nat}{p:Pf}(hp:Made n p):Made (n+300002) (.mk k 0 (.mk 0 []) [t] [] [p]):=by
 have h:=hp.full
 have h':=ht.2.2
 refine .mk' (nd:=⟨1,0,1,false,false⟩) ?_ rfl rfl rfl (by omega) (.inr rfl) rfl (fun h=>by omega) (one_in ht) nil_in (one_in ⟨_,hp⟩) (by rw[pf_full1,no_size];simp;omega)
 rcases hk with rfl|rfl<;>rfl
theorem Made.sub{f:Fm}(hf:FmI f){n m:Nat}{p q:Pf}(hp:Made n p)(hq:Made m q):Made (n+m+300002) (.mk 19 0 (.mk 0 []) [] [f] [p,q]):=by
 have h:=hp.full
 have h1:=hq.full
 have h2:=hf.2.2
 exact .mk' (nd:=⟨0,1,2,false,false⟩) rfl rfl rfl rfl (by omega) (.inr rfl) rfl (fun h=>by omega) nil_in (one_in hf) (two_in ⟨_,hp⟩ ⟨_,hq⟩) (by rw[pf_full1,no_size];simp;omega)
end Go.Ab
namespace Go.Ab
set_option linter.all false
def csum(l:List Tm):Int:=(l.map fun x=>x.cn 20000).sum
def gsum(l:List Ty):Int:=(l.map fun x=>x.cn 20000).sum
theorem cntF_args(at_ b:Int)(f:Fm):cntF at_ (f.tms b)=(f.terms.map fun t=>cnt (at_+b) (t.vars 0)).sum+(f.args.map fun x=>cntF at_ (x.tms (upF f.kind b))).sum:=by
 rw[Fm.tms_eq,cntF_append]
 congr 1
 ·generalize f.terms=l
  induction l with
  |nil=>rfl
  |cons x l ih=>simp only[List.map_cons,cntF,List.sum_cons,ih]
 ·generalize f.args=l
  induction l with
  |nil=>rfl
  |cons x l ih=>simp only[List.flatMap_cons,cntF_append,List.map_cons,List.sum_cons,ih]
theorem FR.cnt{X:TX}{A:Nat}(hx:∀g b t u,X g b t u→cnt (0+b) (u.vars 0)≤A){g:List Ty}{b:Int}{f h:Fm}(hr:FR X g b f h):cntF 0 (h.tms b)≤A*f.nt:=
 FR.ind (P:=fun _ b f h=>cntF 0 (h.tms b)≤A*f.nt) (fun g b f h h1 h2 h3 h4 h5=>by
  rw[cntF_args,Fm.nt_eq,Nat.mul_add]
  have e1:=sum_bdA h.terms (p:=fun t=>Go.Ab.cnt (0+b) (t.vars 0)) (A:=A) (h3.all fun t _ u h=>hx g b t u h)
  have e2:=sum_le_at (p:=fun x:Fm=>cntF 0 (x.tms (upF h.kind b))) (q:=fun x:Fm=>0+A*x.nt) h4.symm (fun i a c=>by have:=h5 i c a;rw[h1];omega)
  rw[sum_lin] at e2
  rw[h3.len] at e1
  have e3:(f.args.map fun _:Fm=>0).sum=0:=by generalize f.args=l;induction l with|nil=>rfl|cons x l ih=>simpa using ih
  omega) f g b h hr
theorem LR_map{X Y:Tm→Tm→Prop}{G:Tm→Tm}:∀{l m:List Tm},LR X l m→(∀t u,X t u→Y (G t) (G u))→LR Y (l.map G) (m.map G)
 |[],[],_,_=>trivial
 |t::l,u::m,h,hy=>⟨hy t u h.1,LR_map h.2 hy⟩
theorem FR.re{X Y:TX}{G:Int→Tm→Tm}(hy:∀g g' b t u,X g b t u→Y g' b (G b t) (G b u)){g:List Ty}{b:Int}{f h:Fm}(hr:FR X g b f h):∀g',FR Y g' b (f.re G b) (h.re G b):=
 FR.ind (P:=fun _ b f h=>∀g',FR Y g' b (f.re G b) (h.re G b)) (fun g b f h h1 h2 h3 h4 h5=>by
  intro g'
  rw[Fm.re_eq,Fm.re_eq,FR_iff]
  simp only[Fm.kind_mk,Fm.ty_mk,Fm.terms_mk,Fm.args_mk]
  refine⟨h1,h2,LR_map h3 fun t u hx=>hy g g' b t u hx,FRs_of (by simp[h4]) fun i a c=> ?_⟩
  simp only[List.length_map] at a c
  simp only[List.getElem_map,h1]
  exact h5 i a c _) f g b h hr
theorem FR.mono{X Y:TX}(hy:∀g b t u,X g b t u→Y g b t u){g:List Ty}{b:Int}{f h:Fm}(hr:FR X g b f h):FR Y g b f h:=
 FR.ind (P:=fun g b f h=>FR Y g b f h) (fun g b f h h1 h2 h3 h4 h5=>by
  rw[FR_iff]
  exact⟨h1,h2,h3.mono fun t _ u h=>hy g b t u h,FRs_of h4 h5⟩) f g b h hr
theorem stp_facts{t:Tm}{g:List Ty}(he:t.err=0)(hi:t.inf g=(natT,0)):(stpT t).err=0∧(stpT t).inf g=(natT,0)∧Pst t (stpT t):=by
 unfold stpT
 rw[if_neg (by simp[he])]
 split
 ·exact ⟨he,hi,.refl _⟩
 ·split
  ·rename_i u h
   obtain⟨hs,_⟩:=err_zero he
   exact⟨nx_err he h,nx_inf _ t g natT u hs hi h,.step (nx_par _ t u hs h) (.refl _)⟩
  ·exact ⟨he,hi,.refl _⟩
theorem iter_facts:∀(k:Nat) {t:Tm} {g:List Ty},t.err=0→t.inf g=(natT,0)→(iterT k t).err=0∧(iterT k t).inf g=(natT,0)∧Pst t (iterT k t)
 |0,t,g,he,hi=>⟨he,hi,.refl _⟩
 |k+1,t,g,he,hi=>by
  obtain⟨h1,h2,h3⟩:=stp_facts he hi
  obtain⟨h4,h5,h6⟩:=iter_facts k h1 h2
  exact⟨h4,h5,h3.trans h6⟩
def QM(g:List Ty)(b:Int)(t:Tm):Prop:=Mk 3 g natT t∧smalls g∧g.length≤6∧0≤b∧b≤2
def XM:TX:=fun g b t u=>QM g b t∧∃k,k≤3∧u=iterT k t
theorem QM.facts{g:List Ty}{b:Int}{t:Tm}(h:QM g b t):t.err=0∧t.inf g=(natT,0)∧okR t=true:=by
 obtain⟨h1,h2,h3,_⟩:=h
 refine⟨(Tm.err_iff t).2 ⟨h1.shape h2 small_nat,by have:=h1.sz3;omega⟩,h1.inf h2 small_nat,h1.okR h3⟩
theorem XM.facts{g:List Ty}{b:Int}{t u:Tm}(h:XM g b t u):t.err=0∧u.err=0∧t.inf g=(natT,0)∧u.inf g=(natT,0)∧Pst t u∧u.size≤64∧cnt (0+b) (u.vars 0)≤4∧g.length≤6∧t.size≤64∧cnt (0+b) (t.vars 0)≤4:=by
 obtain⟨hq,k,hk,rfl⟩:=h
 obtain⟨h1,h2,h3⟩:=hq.facts
 obtain⟨h4,h5,h6⟩:=iter_facts k h1 h2
 obtain⟨h7,h8⟩:=okS_bd (okR_iter h3 k hk)
 obtain⟨h9,h10⟩:=okS_bd (okR_iter h3 0 (by omega))
 exact⟨h1,h4,h2,h5,h6,h7,h8 _ (by have:=hq.2.2.2;omega),hq.2.2.1,h9,h10 _ (by have:=hq.2.2.2;omega)⟩
def XQ:TX:=fun g b t u=>QM g b t∧u=t
theorem XQ_two{k:Int}{g:List Ty}{b:Int}{x y:Fm}(hk:k=2∨k=3)(hx:FR XQ g b x x)(hy:FR XQ g b y y):FR XQ g b (twoF k x y) (twoF k x y):=by
 rw[FR_iff]
 have e1:ctxF g (twoF k x y)=g:=ctxF_n (by rcases hk with rfl|rfl<;>(simp only[twoF,Fm.kind_mk];decide))
 have e2:upF (twoF k x y).kind b=b:=by rcases hk with rfl|rfl<;>rfl
 rw[e1,e2]
 refine⟨rfl,rfl,trivial,?_⟩
 simp only[twoF,Fm.args_mk,FRs]
 exact⟨hx,hy,trivial⟩
theorem XQ_qu{k:Int}{s:Ty}{g:List Ty}{b:Int}{x:Fm}(hk:4≤k∧k≤7)(hx:FR XQ (g++[s]) (b+1) x x):FR XQ g b (quF k s x) (quF k s x):=by
 rw[FR_iff]
 have hq:quantK (quF k s x).kind=true:=by
  have h4:k=4∨k=5∨k=6∨k=7:=by omega
  rcases h4 with rfl|rfl|rfl|rfl<;>(simp only[quF,Fm.kind_mk];decide)
 have e1:ctxF g (quF k s x)=g++[s]:=ctxF_q hq
 have e2:upF (quF k s x).kind b=b+1:=by simp only[upF];rw[if_pos hq]
 rw[e1,e2]
 refine⟨rfl,rfl,trivial,?_⟩
 simp only[quF,Fm.args_mk,FRs]
 exact⟨hx,trivial⟩
theorem XQ_eq(d:Dk){g:List Ty}{b:Int}(hg:smalls g)(hl:g.length≤6)(hb:0≤b∧b≤2):FR XQ g b (d.eqf g).1 (d.eqf g).1:=by
 have m1:=Dk.tm_mk 3 d g natT hg small_nat (by omega) (by omega)
 have m2:=Dk.tm_mk 3 (Dk.tm 3 d g natT).2 g natT hg small_nat (by omega) (by omega)
 rw[FR_iff]
 refine⟨rfl,rfl,⟨⟨⟨m1,hg,hl,hb⟩,rfl⟩,⟨⟨m2,hg,hl,hb⟩,rfl⟩,trivial⟩,?_⟩
 simp only[Dk.eqf,eqF,Fm.args_mk,FRs]
theorem XQ_fm:∀(n:Nat) (d:Dk) (g:List Ty) (b:Int),smalls g→g.length+n≤6→0≤b→b+n≤2→FR XQ g b (Dk.fm n d g).1 (Dk.fm n d g).1:=by
 intro n
 induction n with
 |zero=>exact fun d g b hg hl h0 hb=>XQ_eq d hg (by omega) ⟨h0,by omega⟩
 |succ n ih=>
  intro d g b hg hl h0 hb
  have h2:=Dk.next_bd (((d.next 9).2.type 0).2) 2 (by omega)
  have s1:=Dk.type1 (d.next 9).2
  have s0:=Dk.type0 (d.next 9).2
  have s0':=small_one s0.1 s0.2
  simp only[Dk.fm]
  repeat' split
  ·exact XQ_two (.inl rfl) (ih _ _ _ hg (by omega) h0 (by omega)) (ih _ _ _ hg (by omega) h0 (by omega))
  ·exact XQ_two (.inr rfl) (ih _ _ _ hg (by omega) h0 (by omega)) (ih _ _ _ hg (by omega) h0 (by omega))
  ·exact XQ_qu ⟨by omega,by omega⟩ (ih _ _ _ (smalls_app hg (smalls_cons s1 smalls_nil)) (by simp;omega) (by omega) (by omega))
  ·exact XQ_qu ⟨by omega,by omega⟩ (ih _ _ _ (smalls_app hg (smalls_cons s1 smalls_nil)) (by simp;omega) (by omega) (by omega))
  ·exact XQ_qu ⟨by omega,by omega⟩ (ih _ _ _ (smalls_app hg (smalls_cons s0' smalls_nil)) (by simp;omega) (by omega) (by omega))
  ·exact XQ_eq _ hg (by omega) ⟨h0,by omega⟩
theorem red_LR{g:List Ty}{b:Int}:∀(l:List Tm) (d:Dk),LR (XQ g b) l l→LR (XM g b) l (redTs d l).1
 |[],d,_=>trivial
 |t::l,d,h=>by
  simp only[redTs]
  have hb:=Dk.next_bd d 4 (by omega)
  exact⟨⟨h.1.1,(d.next 4).1.toNat,by omega,rfl⟩,red_LR l _ h.2⟩
theorem red_FR(f:Fm):∀(g:List Ty) (b:Int) (d:Dk),FR XQ g b f f→FR XM g b f (redF d f).1:=by
 induction f using Fm.ind with
 |h f ih=>
  intro g b d h
  rw[redF_eq]
  rw[FR_iff] at h ⊢
  obtain⟨_,_,h3,h4⟩:=h
  refine⟨rfl,rfl,red_LR _ _ h3,?_⟩
  simp only[Fm.args_mk]
  have key:∀l:List Fm,(∀x∈l,∀(g:List Ty) (b:Int) (d:Dk),FR XQ g b x x→FR XM g b x (redF d x).1)→∀(g:List Ty) (b:Int) (d:Dk),FRs XQ g b l l→FRs XM g b l (redFs d l).1:=by
   intro l
   induction l with
   |nil=>intro _ g b d _;simp only[FRs,redFs]
   |cons x l ih2=>
    intro hx g b d hl
    simp only[FRs] at hl
    simp only[FRs,redFs]
    exact⟨hx x List.mem_cons_self g b d hl.1,ih2 (fun y hy=>hx y (List.mem_cons_of_mem _ hy)) g b _ hl.2⟩
  exact key f.args ih _ _ _ h4
theorem fm_ns:∀(n:Nat) (d:Dk) (g:List Ty),(Dk.fm n d g).1.ns+1≤2^(n+1)∧(Dk.fm n d g).1.nt≤2^(n+1):=by
 have heq:∀(d:Dk) (g:List Ty),(d.eqf g).1.ns=1∧(d.eqf g).1.nt=2:=fun d g=>⟨rfl,rfl⟩
 have htw:∀(k:Int) (x y:Fm),(twoF k x y).ns=1+(x.ns+y.ns)∧(twoF k x y).nt=x.nt+y.nt:=fun k x y=>by simp[twoF,Fm.ns,Fm.nss,Fm.nt,Fm.nts]
 have hqu:∀(k:Int) (s:Ty) (x:Fm),(quF k s x).ns=1+x.ns∧(quF k s x).nt=x.nt:=fun k s x=>by simp[quF,Fm.ns,Fm.nss,Fm.nt,Fm.nts]
 intro n
 induction n with
 |zero=>intro d g;obtain⟨h1,h2⟩:=heq d g;simp only[Dk.fm];omega
 |succ n ih=>
  intro d g
  have hpow:2^(n+1+1)=2*2^(n+1):=by rw[Nat.pow_succ];omega
  have h1:1≤2^n:=Nat.one_le_two_pow
  have h2:2^(n+1)=2*2^n:=by rw[Nat.pow_succ];omega
  simp only[Dk.fm]
  repeat' split
  ·have a1:=ih (d.next 9).2 g;have a2:=ih (Dk.fm n (d.next 9).2 g).2 g;rw[(htw _ _ _).1,(htw _ _ _).2];omega
  ·have a1:=ih (d.next 9).2 g;have a2:=ih (Dk.fm n (d.next 9).2 g).2 g;rw[(htw _ _ _).1,(htw _ _ _).2];omega
  ·rw [(hqu _ _ _).1,(hqu _ _ _).2];have:=ih ((d.next 9).2.type 1).2 (g++[((d.next 9).2.type 1).1]);omega
  ·rw [(hqu _ _ _).1,(hqu _ _ _).2];have:=ih ((d.next 9).2.type 1).2 (g++[((d.next 9).2.type 1).1]);omega
  ·rw [(hqu _ _ _).1,(hqu _ _ _).2];have:=ih (((d.next 9).2.type 0).2.next 2).2 (g++[((d.next 9).2.type 0).1]);omega
  ·obtain ⟨h3,h4⟩:=heq (d.next 9).2 g;omega
def putSn(a:Int)(x:Tm)(j:Int):Tm:=if j=a then x.re (liftG 0 a) 0 else vT (if j>a then j-1 else j)
theorem put_subn(a:Int)(ha:0≤a)(x t:Tm):t.re (putG a x) 0=t.re (subG (putSn a x)) 0:=by
 refine re_congr t 0 fun p hp=> ?_
 have h2:=vars_snd t 0 p hp
 rw[putG_eq]
 simp only[subG,putSn]
 by_cases h:p.1<p.2
 ·rw [if_neg (by omega),if_neg (by omega),if_pos h]
 ·rw [if_neg h]
  by_cases h0:p.1-p.2=a
  ·rw [if_pos h0,if_pos h0,lift_lift _ _ _ ha]
  ·rw [if_neg h0,if_neg h0,re_vT,liftG_eq]
   by_cases h3:p.1-p.2>a
   ·rw [if_pos h3,if_pos h3,if_pos (by omega)];congr 1;omega
   ·rw [if_neg h3,if_neg h3,if_pos (by omega)];congr 1;omega
theorem pst_put{t u:Tm}(h:Pst t u)(a:Int)(ha:0≤a)(x:Tm):Pst (t.re (putG a x) 0) (u.re (putG a x) 0):=by
 induction h with
 |refl t=>exact .refl _
 |step h1 _ ih=>
  refine .step ?_ ih
  rw[put_subn a ha,put_subn a ha]
  exact par_re (fun i c _=> .refl _) h1 0 (Int.le_refl _)
theorem put_near{t x:Tm}{a:Int}(ht:t.shape=true)(hx:x.shape=true)(h1:∀p∈t.vars 0,p.1<5000)(h2:∀p∈x.vars 0,p.1<5000):(t.re (putG a x) 0).near=true:=
 List.all_eq_true.2 fun p hp=>by
  have:=put_idx (M:=5000) (by omega) hx ht h2 h1 p hp
  simp;omega
def S3(e:Int):Prop:=e=0∨e=4∨e=5
theorem XM.put{g:List Ty}{b:Int}{t u x:Tm}(h:XM g b t u)(hx:x.shape=true)(hz:x.size≤100)(hv:∀p∈x.vars 0,p.1<5000):
 S3 (mtchR (t.re (putG (0+b) x) 0) (u.re (putG (0+b) x) 0) 1000):=by
 have hb:=h.1.2.2.2
 have hq:=h.1.facts
 obtain⟨e1,e2,i1,i2,hp,z2,c2,hl,z1,c1⟩:=h.facts
 have s1:=((Tm.err_iff t).1 e1).1
 have s2:=((Tm.err_iff u).1 e2).1
 have v1:=fun p hp=>vars_bound t g 0 5000 (by rw[i1]) s1 (by omega) p hp
 have v2:=fun p hp=>vars_bound u g 0 5000 (by rw[i2]) s2 (by omega) p hp
 have key:∀w:Tm,w.shape=true→w.size≤64→cnt (0+b) (w.vars 0)≤4→(∀p∈w.vars 0,p.1<5000)→(w.re (putG (0+b) x) 0).err=0∧(w.re (putG (0+b) x) 0).near=true:=fun w hs hw hc hv2=>by
  refine⟨(Tm.err_iff _).2 ⟨put_shape 0 hx hs (by omega) (by omega) (fun p hp=>vars_snd w 0 p hp),?_⟩,put_near hs hx hv2 hv⟩
  have e:=put_size (0+b) x w hx 0 hs
  have m:cnt (0+b) (w.vars 0)*(x.size-1)≤4*99:=Nat.mul_le_mul (by omega) (by omega)
  omega
 obtain⟨k1,k2⟩:=key t s1 z1 c1 v1
 obtain⟨k3,k4⟩:=key u s2 z2 c2 v2
 exact mtch_pst (pst_put hp (0+b) (by omega) x) k1 k3 k2 k4 (by omega)
theorem mtch_cases{t u:Tm}(h1:t.err=0)(h2:u.err=0)(n1:t.near=true)(n2:u.near=true):S3 (mtchR t u 1000)∨mtchR t u 1000=11:=by
 have key:∀w:Tm,w.err=0→w.near=true→S3 (normR w 1000).2.2:=fun w h n=>by
  unfold normR
  rw[if_neg (by simp[h]),if_neg (by simp[n])]
  exact nrm_lim _ _ _
 have k1:=key t h1 n1
 have k2:=key u h2 n2
 unfold mtchR
 rw[if_neg (by simp[h1]),if_neg (by simp[h2])]
 split
 ·exact .inl (.inl rfl)
 ·split
  ·exact .inl k1
  ·split
   ·exact .inl k2
   ·split
    ·exact .inl (.inl rfl)
    ·exact .inr rfl
theorem mtch_pst'{t u:Tm}(h:Pst t u)(ht:t.err=0)(hu:u.err=0)(hn:t.near=true)(hm:u.near=true):S3 (mtchR u t 1000):=by
 rcases mtch_cases hu ht hm hn with h1|h1
 ·exact h1
 ·exfalso
  unfold mtchR at h1
  rw[if_neg (by simp[hu]),if_neg (by simp[ht])] at h1
  by_cases e:u=t
  ·rw [if_pos e] at h1;cases h1
  ·rw [if_neg e] at h1
   by_cases a1:(normR u 1000).2.2=0
   ·by_cases a2:(normR t 1000).2.2=0
    ·rw [if_neg (by simp[a1]),if_neg (by simp[a2])] at h1
     obtain⟨_,_,p1,p2,_⟩:=normR_ok a1
     obtain⟨_,_,q1,q2,_⟩:=normR_ok a2
     have:=nf_uniq p2 q2 (h.trans p1) q1
     rw[if_pos this] at h1;cases h1
    ·have:=nrm_lim (1000:Int).toNat t 0
     have k2:S3 (normR t 1000).2.2:=by
      unfold normR
      rw[if_neg (by simp[ht]),if_neg (by simp[hn])]
      exact this
     rw[if_neg (by simp[a1]),if_pos a2] at h1
     rcases k2 with k|k|k<;>omega
   ·have k2:S3 (normR u 1000).2.2:=by
     unfold normR
     rw[if_neg (by simp[hu]),if_neg (by simp[hm])]
     exact nrm_lim _ _ _
    rw[if_pos a1] at h1
    rcases k2 with k|k|k<;>omega
theorem XM.plain{g:List Ty}{b:Int}{t u:Tm}(h:XM g b t u):S3 (mtchR t u 1000)∧S3 (mtchR u t 1000):=by
 obtain⟨e1,e2,i1,i2,hp,z2,_,hl,z1,_⟩:=h.facts
 have s1:=((Tm.err_iff t).1 e1).1
 have s2:=((Tm.err_iff u).1 e2).1
 have n1:=near_of (g:=g) (by rw[i1]) s1 (by omega)
 have n2:=near_of (g:=g) (by rw[i2]) s2 (by omega)
 exact⟨mtch_pst hp e1 e2 n1 n2 (steps:=1000) (by omega),mtch_pst' hp e1 e2 n1 n2⟩
theorem same_all(d d2:Dk)(g:List Ty)(s:Ty)(x:Tm)(hg:smalls g)(hs:s.small)(hl:g.length≤3)(hx:Mk 4 g s x):
 let f:=(Dk.fm 2 d (g++[s])).1
 let h:=(redF d2 f).1
 putFErr f 0 x=0∧putFErr h 0 x=0∧S3 (mtchF f h)∧S3 (mtchF h f)∧S3 (mtchF (f.put 0 x) (h.put 0 x))∧mtchF f f=0∧(f.put 0 x).okT g∧(f.put 0 x).err=0∧h.okT (g++[s])∧h.err=0:=by
 intro f h
 have hgs:smalls (g++[s]):=smalls_app hg (smalls_cons hs smalls_nil)
 have hff:FR XQ (g++[s]) 0 f f:=XQ_fm 2 d (g++[s]) 0 hgs (by simp;omega) (by omega) (by omega)
 have hfh:FR XM (g++[s]) 0 f h:=red_FR f _ _ d2 hff
 obtain⟨n1,n2⟩:=fm_ns 2 d (g++[s])
 obtain⟨g1,g2,_⟩:=Dk.fm_good 2 d (g++[s]) hgs
 have okf:=Dk.fm_okT 2 d (g++[s]) hgs
 have n1:f.ns+1≤8:=n1
 have n2:f.nt≤8:=n2
 have g1:f.shape=true:=g1
 have g2:f.size+1≤488:=g2
 have okf:f.okT (g++[s]):=okf
 have fe:f.err=0:=(Fm.err_iff f).2 ⟨g1,by omega⟩
 have hsh:h.shape=true:=hfh.shape (fun g b t u hx=>((Tm.err_iff u).1 hx.facts.2.1).1) g1
 have hsz:h.size≤f.ns+64*f.nt:=hfh.size (fun g b t u hx=>hx.facts.2.2.2.2.2.1)
 have he:h.err=0:=(Fm.err_iff h).2 ⟨hsh,by omega⟩
 have okh:h.okT (g++[s]):=hfh.okT (fun g b t u hx=>hx.facts.2.2.2.1)
 have ch:cntF 0 (h.tms 0)≤4*f.nt:=hfh.cnt (fun g b t u hx=>hx.facts.2.2.2.2.2.2.1)
 have cf:cntF 0 (f.tms 0)≤4*f.nt:=FR.cnt (X:=XQ) (A:=4) (fun g b t u hx=>by
  have h1:XM g b t t:=⟨hx.1,0,by omega,rfl⟩
  have:=h1.facts.2.2.2.2.2.2.1
  rw[hx.2];exact this) hff
 have xz:=hx.sz4
 have xs:=hx.shape hg hs
 have xi:=hx.inf hg hs
 have xe:x.err=0:=(Tm.err_iff x).2 ⟨xs,by omega⟩
 have xn:x.near=true:=near_of (g:=g) (by rw[xi]) xs (by omega)
 have xv:∀p∈x.vars 0,p.1<5000:=fun p hp=>vars_bound x g 0 5000 (by rw[xi]) xs (by omega) p hp
 have fn:=(fokT_near okf fe (by simp;omega)).1
 have hn:=(fokT_near okh he (by simp;omega)).1
 have xp:=x.size_pos
 have m1:cntF 0 (f.tms 0)*(x.size-1)≤32*99:=Nat.mul_le_mul (by omega) (by omega)
 have m2:cntF 0 (h.tms 0)*(x.size-1)≤32*99:=Nat.mul_le_mul (by omega) (by omega)
 have ec:∀c:Nat,((c:Int)*((x.size:Int)-1))=((c*(x.size-1):Nat):Int):=fun c=>by rw[Int.natCast_mul];congr 1;omega
 have pf:putFErr f 0 x=0:=by
  unfold putFErr
  rw[if_neg (by simp[fe]),if_neg (by omega),if_neg (by simp[xe]),if_neg (by simp[fn,xn]),ec,if_neg (by omega)]
 have ph:putFErr h 0 x=0:=by
  unfold putFErr
  rw[if_neg (by simp[he]),if_neg (by omega),if_neg (by simp[xe]),if_neg (by simp[hn,xn]),ec,if_neg (by omega)]
 have pa:(f.put 0 x).err=0:=putF_err (by omega) pf
 have pb:(h.put 0 x).err=0:=putF_err (by omega) ph
 have h0:S3 0:= .inl rfl
 have okp:(f.put 0 x).okT g:=by
  have h6:=fokT_put 0 x g s xs xi f [] 0 rfl g1 (by simpa using okf)
  rw[List.append_nil] at h6
  exact h6
 have mS:∀{a b:Fm},a.err=0→b.err=0→S3 (mtF a b)→S3 (mtchF a b):=fun h1 h2 h3=>by
  unfold mtchF;rw[if_neg (by simp[h1]),if_neg (by simp[h2])];exact h3
 refine⟨pf,ph,mS fe he (hfh.mt h0 fun g b t u hx=>hx.plain.1),mS he fe (hfh.mt' h0 fun g b t u hx=>hx.plain.2),mS pa pb ?_,?_,okp,pa,okh,he⟩
 ·have hp:FR (fun _ _ t u=>S3 (mtchR t u 1000)) [] 0 (f.put 0 x) (h.put 0 x):=
   FR.re (G:=fun b t=>t.re (putG (0+b) x) 0) (fun g g' b t u hq=>hq.put xs xz xv) hfh []
  exact hp.mt h0 fun _ _ _ _ h=>h
 ·refine mtchF_of fe fe ?_
  have:(fun e:Int=>e=0) (mtF f f):=FR.mt (X:=XQ) (S:=fun e=>e=0) rfl (fun g b t u hx=>by
   rw[hx.2]
   have e1:=hx.1.facts.1
   show mtchR t t 1000=0
   unfold mtchR
   rw[if_neg (by simp[e1]),if_neg (by simp[e1]),if_pos rfl]) hff
  exact this
end Go.Ab
