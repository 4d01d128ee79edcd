/- A part of the proofs of this seat's statements: D33, D43, D34, D35, D36, D37, D38, D39, D41, D42, D49, D50, D51, D52, D53, D54, D55, D56, D57, D58, D59, D60, D61, D62, D63, D64, D65, D66, D67, D68, D69, D71, D72, D73, D74, D106, D108. It has no conditions of its own. -/
import Derived.Test.YtcohcngdoeadgaaGreatDoorD1
import Derived.Test.YtcohcngdoeadgaaGreatDoorAT1
namespace Go.Ab
open Go
set_option linter.all false
theorem kA_none{k:Int}:∀{l:List Int},k∉l→keyAt k l=none
 |[],_=>rfl
 |x::l,h=>by
  simp only[List.mem_cons,not_or] at h
  have h1:¬x=k:=fun e=>h.1 e.symm
  simp only[keyAt,if_neg h1,kA_none h.2,Option.map_none]
theorem kA_some{k:Int}:∀{l:List Int},k∈l→∃i,keyAt k l=some i
 |[],h=>by cases h
 |x::l,h=>by
  by_cases hx:x=k
  ·exact ⟨0,by simp[keyAt,hx]⟩
  ·obtain ⟨i,hi⟩:=kA_some (l:=l) (by rcases List.mem_cons.1 h with h|h;exact absurd h.symm hx;exact h)
   exact⟨i+1,by simp[keyAt,hx,hi]⟩
theorem putKs_eq(k:Int)(ks:List Int):putKs k ks=if k∈ks then ks else ks++[k]:=by
 by_cases h:k∈ks
 ·obtain ⟨i,hi⟩:=kA_some h
  rw[if_pos h,putKs,hi]
 ·rw [if_neg h,putKs,kA_none h]
theorem mem_putKs{k x:Int}{ks:List Int}:x∈putKs k ks↔x∈ks∨x=k:=by
 rw[putKs_eq]
 split
 ·rename_i h
  constructor
  ·exact Or.inl
  ·rintro (h1|rfl)
   ·exact h1
   ·exact h
 ·simp
theorem nodup_putKs{k:Int}{ks:List Int}(h:ks.Nodup):(putKs k ks).Nodup:=by
 rw[putKs_eq]
 split
 ·exact h
 ·rename_i h1
  exact List.nodup_append.2 ⟨h,by simp,fun a ha b hb e=>by simp at hb;subst hb;subst e;exact h1 ha⟩
theorem putCs_same(k:Int)(ks:List Int)(b:Bool):putCs k ks (List.replicate ks.length b) b=List.replicate (putKs k ks).length b:=by
 unfold putCs putKs
 split
 ·rename_i i hi
  apply List.ext_getElem?
  intro j
  rw[List.getElem?_set]
  split
  ·rename_i e;subst e
   have:=(keyAt_some hi).2
   simp[List.getElem?_replicate,this]
  ·rfl
 ·rw [List.length_append,←List.replicate_append_replicate];rfl
def nub(acc l:List Int):List Int:=l.foldl (fun ks k=>putKs k ks) acc
theorem nub_app(acc l l':List Int):nub acc (l++l')=nub (nub acc l) l':=List.foldl_append
theorem nub_nil(acc:List Int):nub acc []=acc:=rfl
theorem nub_one(acc:List Int)(k:Int):nub acc [k]=putKs k acc:=rfl
theorem mem_nub{x:Int}:∀{l acc:List Int},x∈nub acc l↔x∈acc∨x∈l
 |[],acc=>by simp[nub]
 |k::l,acc=>by
  show x∈nub (putKs k acc) l↔_
  rw[mem_nub,mem_putKs,List.mem_cons,or_assoc]
theorem nodup_nub:∀{l acc:List Int},acc.Nodup→(nub acc l).Nodup
 |[],acc,h=>h
 |k::l,acc,h=>nodup_nub (l:=l) (nodup_putKs h)
theorem nub_len:∀(l acc:List Int),(nub acc l).length≤acc.length+l.length
 |[],acc=>by simp[nub]
 |k::l,acc=>by
  have h1:=nub_len l (putKs k acc)
  have h2:(putKs k acc).length≤acc.length+1:=by rw[putKs_eq];split<;>simp
  show(nub (putKs k acc) l).length≤_
  rw[List.length_cons];omega
def fre(l:List (Int×Int)):List Int:=l.filterMap fun p=>if p.2≤p.1 then some (p.1-p.2) else none
theorem fre_app(l l':List (Int×Int)):fre (l++l')=fre l++fre l':=List.filterMap_append
theorem fre_nil:fre []=[]:=rfl
theorem fre_one(i b:Int):fre [(i,b)]=if b≤i then [i-b] else []:=by
 by_cases h:b≤i
 ·simp [fre,h]
 ·simp [fre,h]
theorem fre_len(l:List (Int×Int)):(fre l).length≤l.length:=List.length_filterMap_le _ _
theorem mem_fre{x:Int}{l:List (Int×Int)}:x∈fre l↔0≤x∧∃p∈l,p.1-p.2=x:=by
 simp only[fre,List.mem_filterMap]
 constructor
 ·rintro ⟨p,hp,h⟩
  split at h
  ·cases h;exact⟨by omega,p,hp,rfl⟩
  ·cases h
 ·rintro ⟨h0,p,hp,h⟩
  exact⟨p,hp,by rw[if_pos (by omega),h]⟩
def useK(t:Tm):List Int:=nub [] (fre (t.vars 0))
def usesI(t:Tm):List Int:=sortI (useK t)
def shI(fr by_ v:Int):Int:=if v≥fr then v+by_ else v
def insS(l:List Int)(n:Int)(i:Nat):List Int:=l.take i++(l.getD i n::l.drop i)
def insE(l:List Int)(n:Int)(i:Nat):List Int:=l.take i++n::l.drop i
def lowerErr(t:Tm)(a:Int):Int:=if t.err≠0 then t.err else if ¬(0≤a∧a≤4096) then 1 else if 0<cnt a (t.vars 0) then 6 else 0
def prevs(l:List Int):List Int:=(l.filter fun v=>decide (v≠0)).map (·-1)
def wantI(a b:List Int):List Int:=nub (nub [] (prevs a)) (if 0∈a then b else [])
def hasM(a:List Int)(m:Nat):Bool:=decide (0∈a.take m)
def wM(a:List Int)(m:Nat):List Int:=nub [] (prevs (a.take m))
def wN(a b:List Int)(h:Bool)(m:Nat):List Int:=nub (wM a a.length) (if h=true then b.take m else [])
def useKF(f:Fm):List Int:=nub [] (fre (varsL (f.tms 0)))
def usesFI(f:Fm):List Int:=sortI (useKF f)
theorem useKF_nodup(f:Fm):(useKF f).Nodup:=nodup_nub List.nodup_nil
theorem varsL_nil:varsL []=[]:=rfl
theorem varsL_one(t:Tm)(b:Int):varsL [(t,b)]=t.vars b:=by simp[varsL]
theorem mem_useKF{f:Fm}{x:Int}:x∈useKF f↔0≤x∧∃q∈varsL (f.tms 0),q.1-q.2=x:=by rw[useKF,mem_nub,mem_fre];simp
theorem varsL_len(l:List (Tm×Int)):(varsL l).length≤(l.map fun q=>q.1.size).sum:=by
 induction l with
 |nil=>simp[varsL]
 |cons q l ih=>
  have:=q.1.vars_len q.2
  simp only[varsL,List.flatMap_cons,List.length_append,List.map_cons,List.sum_cons] at ih ⊢
  omega
theorem useKF_len(f:Fm):(useKF f).length≤((f.tms 0).map fun q=>q.1.size).sum:=by
 have h1:=nub_len (fre (varsL (f.tms 0))) []
 have h2:=fre_len (varsL (f.tms 0))
 have h3:=varsL_len (f.tms 0)
 simp only[useKF,List.length_nil] at*;omega
theorem useKF_size(f:Fm):(useKF f).length≤f.size:=by
 have h1:=useKF_len f
 have h2:=tms_size f 0
 omega
def Fm.lft(f:Fm)(fr by_:Int):Fm:=f.re (fun b t=>t.re (liftG (fr+b) by_) 0) 0
def liftFErr(f:Fm)(fr by_:Int):Int:=if f.err≠0 then f.err else if ¬(0≤fr∧fr≤4096)∨¬(0≤by_∧by_≤4096)∨f.near=false then 1 else 0
def lowerFErr(f:Fm)(a:Int):Int:=if f.err≠0 then f.err else if ¬(0≤a∧a≤4096) then 1 else if 0<cntF a (f.tms 0) then 6 else 0
def falseF:Fm:=eqF (.mk 4 0 (.mk 0 []) []) (.mk 5 0 (.mk 0 []) [.mk 4 0 (.mk 0 []) []])
def notF(f:Fm):Fm:= .mk 3 (.mk 0 []) [] [f,falseF]
def zeroF:Fm:=eqF (.mk 1 0 (.mk 0 []) []) (.mk 4 0 (.mk 0 []) [])
def orF(a b:Fm):Fm:= .mk 5 natT [] [.mk 2 (.mk 0 []) [] [.mk 3 (.mk 0 []) [] [zeroF,a],.mk 3 (.mk 0 []) [] [.mk 3 (.mk 0 []) [] [zeroF,falseF],b]]]
theorem map_same{α:Type}{f g:α→Nat}{l:List α}(h:∀x∈l,f x=g x):(l.map f).sum=(l.map g).sum:=by rw[List.map_congr_left h]
theorem re_keeps{G:Int→Tm→Tm}(hG:∀b t,t.shape=true→(G b t).shape=true∧(G b t).size=t.size∧(G b t).full=t.full)(f:Fm):∀b,f.shape=true→(f.re G b).shape=true∧(f.re G b).size=f.size∧(f.re G b).full=f.full:=by
 induction f using Fm.ind with
 |h f ih=>
  intro b hf
  have h0:=hf
  rw[Fm.shape_eq,Bool.and_eq_true,Bool.and_eq_true] at h0
  obtain⟨⟨h1,h2⟩,h3⟩:=h0
  rw[Fm.re_eq]
  refine⟨?_,?_,?_⟩
  ·rw [Fm.shape_eq,Bool.and_eq_true,Bool.and_eq_true]
   refine⟨⟨?_,?_⟩,?_⟩
   ·simp only[Fm.head,Fm.kind_mk,Fm.ty_mk,Fm.terms_mk,Fm.args_mk,List.length_map] at h1 ⊢
    exact h1
   ·rw [Fm.terms_mk,List.all_eq_true]
    intro y hy
    obtain⟨x,hx,rfl⟩:=List.mem_map.1 hy
    exact(hG b x (List.all_eq_true.1 h2 x hx)).1
   ·rw [Fm.args_mk,List.all_eq_true]
    intro y hy
    obtain⟨x,hx,rfl⟩:=List.mem_map.1 hy
    exact(ih x hx _ (List.all_eq_true.1 h3 x hx)).1
  ·rw [Fm.size_eq,f.size_eq]
   simp only[Fm.terms_mk,Fm.args_mk,List.map_map]
   rw[map_same (f:=Tm.size∘G b) (g:=Tm.size) fun x hx=>(hG b x (List.all_eq_true.1 h2 x hx)).2.1,map_same (f:=Fm.size∘Fm.re G (upF f.kind b)) (g:=Fm.size) fun x hx=>(ih x hx _ (List.all_eq_true.1 h3 x hx)).2.1]
  ·rw [Fm.full_eq,f.full_eq]
   simp only[Fm.terms_mk,Fm.args_mk,Fm.ty_mk,List.map_map]
   rw[map_same (f:=Tm.full∘G b) (g:=Tm.full) fun x hx=>(hG b x (List.all_eq_true.1 h2 x hx)).2.2,map_same (f:=Fm.full∘Fm.re G (upF f.kind b)) (g:=Fm.full) fun x hx=>(ih x hx _ (List.all_eq_true.1 h3 x hx)).2.2]
theorem lft_keeps{f:Fm}(hf:f.shape=true){fr by_:Int}(hb:0≤by_):(f.lft fr by_).shape=true∧(f.lft fr by_).size=f.size∧(f.lft fr by_).full=f.full:=
 re_keeps (fun b t ht=>⟨lift_shape 0 ht hb,lift_size _ _ t 0 ht,lift_full _ _ t 0 ht⟩) f 0 hf
theorem fokT_lft(g m:List Ty)(fr:Int)(f:Fm):∀(h:List Ty) (b:Int),(h.length:Int)=fr+b→f.shape=true→f.okT (g++h)→
 (f.re (fun b t=>t.re (liftG (fr+b) m.length) 0) b).okT (g++m++h):=by
 induction f using Fm.ind with
 |h f ih=>
  intro h b hb hf hok
  rw[Fm.okT_iff] at hok
  rw[Fm.re_eq,Fm.okT_iff]
  simp only[Fm.terms_mk,Fm.args_mk]
  refine⟨fun y hy=> ?_,fun y hy=> ?_⟩
  ·obtain ⟨x,hx,rfl⟩:=List.mem_map.1 hy
   rw[lift_inf x g m h (fr+b) 0 (fshape_terms hf hx) (by omega)]
   exact hok.1 x hx
  ·obtain ⟨x,hx,rfl⟩:=List.mem_map.1 hy
   have h1:=hok.2 x hx
   by_cases hq:quantK f.kind=true
   ·rw [ctxF_q hq] at h1
    rw[show ∀ts fs,ctxF (g++m++h) (Fm.mk f.kind f.ty ts fs)=g++m++h++[f.ty] from fun ts fs=>ctxF_q (f:=Fm.mk f.kind f.ty ts fs) hq]
    have e:upF f.kind b=b+1:=if_pos hq
    rw[e,List.append_assoc (g++m)]
    rw[List.append_assoc] at h1
    exact ih x hx (h++[f.ty]) (b+1) (by simp;omega) (fshape_args hf hx) h1
   ·rw [ctxF_n hq] at h1
    rw[show ∀ts fs,ctxF (g++m++h) (Fm.mk f.kind f.ty ts fs)=g++m++h from fun ts fs=>ctxF_n (f:=Fm.mk f.kind f.ty ts fs) hq]
    have e:upF f.kind b=b:=if_neg hq
    rw[e]
    exact ih x hx h b hb (fshape_args hf hx) h1
theorem lft_err{f:Fm}(he:f.err=0){fr by_:Int}(hb:0≤by_):(f.lft fr by_).err=0:=by
 have h1:=(Fm.err_iff f).1 he
 obtain⟨h2,h3,_⟩:=lft_keeps h1.1 (fr:=fr) hb
 exact(Fm.err_iff _).2 ⟨h2,by rw[h3];exact h1.2⟩
def exF:Fm:= .mk 4 natT [] [.mk 1 (.mk 0 []) [vT 0,vT 1] []]
theorem exF_uses:usesFI exF=[0]:=by
 have:useKF exF=[0]:=by decide
 rw[usesFI,this];exact List.mergeSort_singleton 0
theorem exF_err:exF.err=0:=by decide
theorem exF_idx:∀p∈varsL (exF.tms 0),(0≤p.1∧p.1<9223372036854775808)∧0≤p.2:=by decide
structure Ck where
 lems:List Fm
 tys:List Ty
 hyps:List Fm
def Ck.view(c:Ck):List V:=[.s .fm c.lems,.s .ty c.tys,.s .fm c.hyps]
def Ck.below(c:Ck)(l:List Ty):Ck:=⟨c.lems,c.tys++l,c.hyps.map fun f=>f.lft 0 l.length⟩
def Ck.with_(c:Ck)(f:Fm):Ck:=⟨c.lems,c.tys,c.hyps++[f]⟩
def Ck.room(c:Ck)(v h:Nat):Int:=if c.tys.length+v>16∨c.hyps.length+h>16 then 3 else 0
def unionI(a b:List Int):List Int:=sortI (nub (nub [] a) b)
def outI(l:List Int)(n:Int):List Int:=(l.filter fun x=>decide (x≥n)).map (·-n)
def hasI:List Int→Bool
 |[]=>false
 |x::_=>x==0
def freeT(t:Tm):List Int:=if t.err=0 then usesI t else []
def putK(f:Fm)(t:Tm):Fm×Int:=(if putFErr f 0 t=0 then f.put 0 t else noFm,putFErr f 0 t)
def kTyp(c:Ck)(t:Tm)(k:Int):Int:=if(typeOf c.tys t).2≠0 then(typeOf c.tys t).2 else if(typeOf c.tys t).1.kind≠k then 7 else 0
def nrmTs:List Tm→List Tm×Int
 |[]=>([],0)
 |t::l=>if(normR t 1000).2.2≠0 then([],(normR t 1000).2.2) else if(nrmTs l).2≠0 then([],(nrmTs l).2) else((normR t 1000).1::(nrmTs l).1,0)
mutual
def normF:Fm→Fm×Int
 | .mk k h ts zs=>if(nrmTs ts).2≠0 then(noFm,(nrmTs ts).2) else if(normFs zs).2≠0 then(noFm,(normFs zs).2) else(.mk k h (nrmTs ts).1 (normFs zs).1,0)
def normFs:List Fm→List Fm×Int
 |[]=>([],0)
 |f::l=>if(normF f).2≠0 then([],(normF f).2) else if(normFs l).2≠0 then([],(normFs l).2) else((normF f).1::(normFs l).1,0)
end
mutual
def contF:Fm→Bool
 | .mk k _ _ zs=>if k=1 then false else if k=2 then(contFs zs).getD 0 false||(contFs zs).getD 1 false else if k=5 then true else(contFs zs).getLastD false
def contFs:List Fm→List Bool
 |[]=>[]
 |f::l=>contF f::contFs l
end
abbrev Res:=Fm×List Int×Int
abbrev Rs:=Ck→Res
def noRes(e:Int):Res:=(noFm,[],e)
def partR(r:Rs)(c:Ck)(f:Fm)(t:Tm):List Int×Int:=
 if(r c).2.2≠0 then([],(r c).2.2) else if(putK f t).2≠0 then([],(putK f t).2) else((r c).2.1,mtchF (putK f t).1 (r c).1)
def finR(r:Res):Res:=if r.2.2≠0 then noRes r.2.2 else if r.1.err≠0 then noRes 4 else(r.1,if contF r.1=true then r.2.1 else [],0)
def hypR(c:Ck)(i:Int):Res:=if i≥c.hyps.length then noRes 8 else(c.hyps.getD (c.hyps.length-1-i.toNat) noFm,[],0)
def lemR(c:Ck)(i:Int):Res:=if i≥c.lems.length then noRes 9 else(c.lems.getD i.toNat noFm,[],0)
def andR(r0 r1:Rs)(c:Ck):Res:=if(r0 c).2.2≠0 then noRes (r0 c).2.2 else(twoF 2 (r0 c).1 (r1 c).1,unionI (r0 c).2.1 (r1 c).2.1,(r1 c).2.2)
def prjR(j:Nat)(r0:Rs)(c:Ck):Res:=if(r0 c).2.2≠0 then noRes (r0 c).2.2 else if(r0 c).1.kind≠2 then noRes 10 else((r0 c).1.args.getD j noFm,(r0 c).2.1,0)
def impiR(f:Fm)(r0:Rs)(c:Ck):Res:=
 if typedFC c.tys f≠0 then noRes (typedFC c.tys f) else if c.room 0 1≠0 then noRes 3 else(twoF 3 f (r0 (c.with_ f)).1,(r0 (c.with_ f)).2.1,(r0 (c.with_ f)).2.2)
def impeR(r0 r1:Rs)(c:Ck):Res:=
 if(r0 c).2.2≠0 then noRes (r0 c).2.2 else if(r0 c).1.kind≠3 then noRes 10 else if(r1 c).2.2≠0 then noRes (r1 c).2.2
 else((r0 c).1.args.getD 1 noFm,unionI (r0 c).2.1 (r1 c).2.1,mtchF ((r0 c).1.args.getD 0 noFm) (r1 c).1)
def allR(k:Int)(s:Ty)(r0:Rs)(c:Ck):Res:=
 if c.room 1 0≠0 then noRes 3 else if(r0 (c.below [s])).2.2≠0 then noRes (r0 (c.below [s])).2.2
 else if k=8 then(quF 4 s (r0 (c.below [s])).1,outI (r0 (c.below [s])).2.1 1,0)
 else if hasI (r0 (c.below [s])).2.1=true then noRes 12 else(quF 6 s (r0 (c.below [s])).1,outI (r0 (c.below [s])).2.1 1,0)
def kI(k u a b:Int):Int:=if k=u then a else b
def kL(k u:Int)(a b:List Int):List Int:=if k=u then a else b
def atR(k:Int)(t:Tm)(r0:Rs)(c:Ck):Res:=
 if(typeOf c.tys t).2≠0 then noRes (typeOf c.tys t).2 else if(r0 c).2.2≠0 then noRes (r0 c).2.2
 else if(r0 c).1.kind≠kI k 13 6 4 then noRes 10 else if(r0 c).1.ty≠(typeOf c.tys t).1 then noRes 7
 else((putK ((r0 c).1.args.getD 0 noFm) t).1,kL k 13 (r0 c).2.1 (unionI (r0 c).2.1 (freeT t)),(putK ((r0 c).1.args.getD 0 noFm) t).2)
def exR(k:Int)(f:Fm)(t:Tm)(r0:Rs)(c:Ck):Res:=
 if typedFC c.tys f≠0 then noRes (typedFC c.tys f) else if f.kind≠kI k 14 7 5 then noRes 10
 else if(typeOf c.tys t).2≠0 then noRes (typeOf c.tys t).2 else if f.ty≠(typeOf c.tys t).1 then noRes 7
 else(f,kL k 14 (partR r0 c (f.args.getD 0 noFm) t).1 (unionI (partR r0 c (f.args.getD 0 noFm) t).1 (freeT t)),(partR r0 c (f.args.getD 0 noFm) t).2)
def freeR(f:Fm):Fm×Int:=
 if timesF 0 f=0 then(f,0) else if(normF f).2≠0 then(noFm,(normF f).2) else if timesF 0 (normF f).1≠0 then(noFm,6) else((normF f).1,0)
def openB(r1:Rs)(c:Ck)(a:Fm):Res:=r1 ((c.below [a.ty]).with_ (a.args.getD 0 noFm))
def opnR(k:Int)(r0 r1:Rs)(c:Ck):Res:=
 if(r0 c).2.2≠0 then noRes (r0 c).2.2 else if(r0 c).1.kind≠kI k 15 7 5 then noRes 10 else if c.room 1 1≠0 then noRes 3
 else if(openB r1 c (r0 c).1).2.2≠0 then noRes (openB r1 c (r0 c).1).2.2
 else if(freeR (openB r1 c (r0 c).1).1).2≠0 then noRes (freeR (openB r1 c (r0 c).1).1).2
 else if k=15∧hasI (openB r1 c (r0 c).1).2.1=true then noRes 12
 else((freeR (openB r1 c (r0 c).1).1).1.lft 1 (-1),unionI (r0 c).2.1 (outI (openB r1 c (r0 c).1).2.1 1),0)
def indR(f:Fm)(t:Tm)(r0 r1:Rs)(c:Ck):Res:=
 if typedF (c.tys++[natT]) f≠0 then noRes (typedF (c.tys++[natT]) f) else if kTyp c t 1≠0 then noRes (kTyp c t 1)
 else if(partR r0 c f zT).2≠0 then noRes (partR r0 c f zT).2 else if c.room 1 1≠0 then noRes 3
 else if(partR r1 ((c.below [natT]).with_ f) (f.lft 1 1) (sT (vT 0))).2≠0 then noRes (partR r1 ((c.below [natT]).with_ f) (f.lft 1 1) (sT (vT 0))).2
 else((putK f t).1,unionI (unionI (freeT t) (partR r0 c f zT).1) (outI (partR r1 ((c.below [natT]).with_ f) (f.lft 1 1) (sT (vT 0))).1 1),(putK f t).2)
def nilM:Tm:= .mk 7 0 (.mk 0 []) []
def consM:Tm:= .mk 8 0 (.mk 0 []) [vT 1,vT 0]
def listR(f:Fm)(t:Tm)(r0 r1:Rs)(c:Ck):Res:=
 if typedF (c.tys++[listT]) f≠0 then noRes (typedF (c.tys++[listT]) f) else if kTyp c t 2≠0 then noRes (kTyp c t 2)
 else if(partR r0 c f nilM).2≠0 then noRes (partR r0 c f nilM).2 else if c.room 2 1≠0 then noRes 3
 else if(partR r1 ((c.below [natT,listT]).with_ (f.lft 1 1)) (f.lft 1 2) consM).2≠0 then noRes (partR r1 ((c.below [natT,listT]).with_ (f.lft 1 1)) (f.lft 1 2) consM).2
 else((putK f t).1,unionI (unionI (freeT t) (partR r0 c f nilM).1) (outI (partR r1 ((c.below [natT,listT]).with_ (f.lft 1 1)) (f.lft 1 2) consM).1 2),(putK f t).2)
def reflR(t:Tm)(c:Ck):Res:=(eqF t t,[],kTyp c t 1)
def substR(f:Fm)(r0 r1:Rs)(c:Ck):Res:=
 if typedF (c.tys++[natT]) f≠0 then noRes (typedF (c.tys++[natT]) f) else if(r0 c).2.2≠0 then noRes (r0 c).2.2 else if(r0 c).1.kind≠1 then noRes 10
 else if(partR r1 c f ((r0 c).1.terms.getD 0 noTm)).2≠0 then noRes (partR r1 c f ((r0 c).1.terms.getD 0 noTm)).2
 else((putK f ((r0 c).1.terms.getD 1 noTm)).1,(partR r1 c f ((r0 c).1.terms.getD 0 noTm)).1,(putK f ((r0 c).1.terms.getD 1 noTm)).2)
def appV:Tm:=apT (vT 1) (vT 0)
def chB(a:Fm):Fm×Int:=putK (((a.args.getD 0 noFm).args.getD 0 noFm).lft 2 1) appV
def chF(a:Fm):Ty:=funT a.ty (a.args.getD 0 noFm).ty
def choiceR(r0:Rs)(c:Ck):Res:=
 if(r0 c).2.2≠0 then noRes (r0 c).2.2 else if(r0 c).1.kind≠4∨((r0 c).1.args.getD 0 noFm).kind≠5 then noRes 10 else if(chF (r0 c).1).err≠0 then noRes 4
 else(quF 5 (chF (r0 c).1) (quF 4 (r0 c).1.ty (chB (r0 c).1).1),(r0 c).2.1,(chB (r0 c).1).2)
def ruleR(k i:Int)(s:Ty)(ts:List Tm)(fs:List Fm)(rs:List Rs)(c:Ck):Res:=
 if k=1 then hypR c i else if k=2 then lemR c i else if k=3 then andR (rs.getD 0 fun _=>noRes 0) (rs.getD 1 fun _=>noRes 0) c
 else if k=4∨k=5 then prjR (k-4).toNat (rs.getD 0 fun _=>noRes 0) c
 else if k=6 then impiR (fs.getD 0 noFm) (rs.getD 0 fun _=>noRes 0) c
 else if k=7 then impeR (rs.getD 0 fun _=>noRes 0) (rs.getD 1 fun _=>noRes 0) c
 else if k=8∨k=12 then allR k s (rs.getD 0 fun _=>noRes 0) c
 else if k=9∨k=13 then atR k (ts.getD 0 noTm) (rs.getD 0 fun _=>noRes 0) c
 else if k=10∨k=14 then exR k (fs.getD 0 noFm) (ts.getD 0 noTm) (rs.getD 0 fun _=>noRes 0) c
 else if k=11∨k=15 then opnR k (rs.getD 0 fun _=>noRes 0) (rs.getD 1 fun _=>noRes 0) c
 else if k=16 then indR (fs.getD 0 noFm) (ts.getD 0 noTm) (rs.getD 0 fun _=>noRes 0) (rs.getD 1 fun _=>noRes 0) c
 else if k=17 then listR (fs.getD 0 noFm) (ts.getD 0 noTm) (rs.getD 0 fun _=>noRes 0) (rs.getD 1 fun _=>noRes 0) c
 else if k=18 then reflR (ts.getD 0 noTm) c
 else if k=19 then substR (fs.getD 0 noFm) (rs.getD 0 fun _=>noRes 0) (rs.getD 1 fun _=>noRes 0) c
 else choiceR (rs.getD 0 fun _=>noRes 0) c
mutual
def infP:Pf→Rs
 | .mk k i s ts fs zs=>fun c=>finR (ruleR k i s ts fs (infPs zs) c)
def infPs:List Pf→List Rs
 |[]=>[]
 |p::l=>infP p::infPs l
end
theorem infPs_eq:∀l:List Pf,infPs l=l.map infP
 |[]=>rfl
 |p::l=>by rw[infPs,infPs_eq l];rfl
theorem infP_eq(p:Pf)(c:Ck):infP p c=finR (ruleR p.kind p.index p.ty p.terms p.forms (p.args.map infP) c):=by cases p;simp only[infP,infPs_eq];rfl
theorem firstErr_of:∀{g:List Ty},(∀x∈g,x.err=0)→firstErr g=0
 |[],_=>rfl
 |x::l,h=>by
  simp only[firstErr]
  rw[if_neg (by simp[h x (by simp)])]
  exact firstErr_of fun y hy=>h y (by simp[hy])
theorem ctxErr_of{g:List Ty}(hl:g.length≤16)(h:∀x∈g,x.err=0):ctxErr g=0:=by
 unfold ctxErr
 rw[if_neg (by omega)]
 exact firstErr_of h
def UsesOk(n:Nat)(l:List Int):Prop:=l.Nodup∧∀u∈l,0≤u∧u<n
theorem UsesOk.nil(n:Nat):UsesOk n []:=⟨List.nodup_nil,fun u h=>by cases h⟩
theorem UsesOk.len{n:Nat}{l:List Int}(h:UsesOk n l):l.length≤n:=(nodup_len n l h.1 h.2).1
theorem mem_outI{l:List Int}{n x:Int}:x∈outI l n↔0≤x∧x+n∈l:=by
 simp only[outI,List.mem_map,List.mem_filter,decide_eq_true_eq]
 constructor
 ·rintro ⟨y,⟨h1,h2⟩,rfl⟩
  exact⟨by omega,by rw[Int.sub_add_cancel];exact h1⟩
 ·rintro ⟨h1,h2⟩
  exact⟨x+n,⟨h2,by omega⟩,by omega⟩
theorem UsesOk.out{n m:Nat}{l:List Int}(h:UsesOk (n+m) l):UsesOk n (outI l m):=by
 refine⟨?_,fun u hu=> ?_⟩
 ·have h1:(l.filter fun x=>decide (x≥(m:Int))).Nodup:=h.1.filter _
  unfold outI
  rw[List.nodup_iff_pairwise_ne,List.pairwise_map]
  exact(List.nodup_iff_pairwise_ne.1 h1).imp fun hne e=>hne (by omega)
 ·obtain ⟨h1,h2⟩:=mem_outI.1 hu
  have:=h.2 _ h2
  exact⟨h1,by omega⟩
theorem twoF_size(k:Int)(a b:Fm):(twoF k a b).size=1+a.size+b.size:=by rw[Fm.size_eq];simp[twoF];omega
theorem quF_size(k:Int)(s:Ty)(a:Fm):(quF k s a).size=1+a.size:=by rw[Fm.size_eq];simp[quF]
theorem lft_okTs{f:Fm}{g h:List Ty}(m:List Ty)(hf:f.shape=true)(hok:f.okT (g++h)):(f.lft h.length m.length).okT (g++m++h):=by
 have:=fokT_lft g m h.length f h 0 (by omega) hf hok
 exact this
structure Ck.ok (c:Ck):Prop where
 ctx:ctxErr c.tys=0
 nh:c.hyps.length≤16
 nl:c.lems.length≤32
 hyps:∀f∈c.hyps,f.err=0∧f.okT c.tys
 lems:∀f∈c.lems,f.err=0∧f.okT []
theorem Ck.ok.len{c:Ck}(h:c.ok):c.tys.length≤16:=(ctxErr_all h.ctx).1
theorem Ck.ok.all{c:Ck}(h:c.ok):∀x∈c.tys,x.err=0:=(ctxErr_all h.ctx).2
theorem Ck.ok.below{c:Ck}(h:c.ok){l:List Ty}(hl:c.tys.length+l.length≤16)(he:∀x∈l,x.err=0):(c.below l).ok:=by
 refine⟨ctxErr_of (by simp[Ck.below];omega) fun x hx=> ?_,by simp[Ck.below];exact h.nh,h.nl,fun f hf=> ?_,h.lems⟩
 ·rcases List.mem_append.1 hx with hx|hx
  ·exact h.all x hx
  ·exact he x hx
 ·obtain ⟨y,hy,rfl⟩:=List.mem_map.1 hf
  obtain⟨h1,h2⟩:=h.hyps y hy
  refine⟨lft_err h1 (by omega),?_⟩
  have h3:=lft_okTs (g:=c.tys) (h:=[]) l ((Fm.err_iff y).1 h1).1 (by simpa using h2)
  simpa [Ck.below] using h3
theorem Ck.ok.with_{c:Ck}(h:c.ok){f:Fm}(hl:c.hyps.length+1≤16)(hf:f.err=0)(hok:f.okT c.tys):(c.with_ f).ok:=by
 refine⟨h.ctx,by simp[Ck.with_];omega,h.nl,fun y hy=> ?_,h.lems⟩
 rcases List.mem_append.1 hy with hy|hy
 ·exact h.hyps y hy
 ·simp only[List.mem_singleton] at hy
  subst hy;exact⟨hf,hok⟩
def RuleOk(c:Ck)(r:Res):Prop:=r.2.2=0→r.1.shape=true∧r.1.size≤20000000∧r.1.okT c.tys∧UsesOk c.tys.length r.2.1
def ResOk(c:Ck)(r:Res):Prop:=(r.2.2=0→r.1.err=0∧r.1.okT c.tys∧UsesOk c.tys.length r.2.1)∧(r.2.2≠0→r=noRes r.2.2)
def RsOk(r:Rs):Prop:=∀c,c.ok→ResOk c (r c)
theorem zT_inf(g:List Ty):zT.inf g=(natT,0):=by simp[zT,Tm.inf,Tm.infs,rule]
theorem nil_inf(g:List Ty):nilM.inf g=(listT,0):=by simp[nilM,Tm.inf,Tm.infs,rule]
theorem Ck.ok.one{c:Ck}(h:c.ok){s:Ty}(hs:s.err=0):∀x∈c.tys++[s],x.err=0:=fun x hx=>by
 rcases List.mem_append.1 hx with hx|hx
 ·exact h.all x hx
 ·simp only[List.mem_singleton] at hx;subst hx;exact hs
def PfOk(p:Pf):Prop:=p.shape=true∧p.small=true
def seqE(lems:List Fm)(tys:List Ty)(hyps:List Fm):Int:=
 if lems.length>32 then 3 else if firstI (typedFC []) lems≠0 then firstI (typedFC []) lems else if ctxErr tys≠0 then ctxErr tys
 else if hyps.length>16 then 3 else firstI (typedFC tys) hyps
def InferR(lems:List Fm)(tys:List Ty)(hyps:List Fm)(p:Pf):Res:=
 if seqE lems tys hyps≠0 then noRes (seqE lems tys hyps) else if p.err≠0 then noRes p.err else infP p ⟨lems,tys,hyps⟩
def AcceptsR(lems:List Fm)(tys:List Ty)(hyps:List Fm)(p:Pf)(f:Fm):Int:=
 if(InferR lems tys hyps p).2.2≠0 then(InferR lems tys hyps p).2.2 else if typedFC tys f≠0 then typedFC tys f else mtchF (InferR lems tys hyps p).1 f
def fvK(k:Int):Int:=if k=16∨k=17∨k=19 then 1 else 0
def vaK(k:Int):Int:=if k=17 then 2 else if k=8∨k=12∨k=11∨k=15∨k=16 then 1 else 0
def hyK(k:Int):Int:=if k=6∨k=11∨k=15∨k=16∨k=17 then 1 else 0
def ruC(k:Int):List V:=match ndP k with
 |some n=>[.bool n.index,.bool n.typ,.i n.terms,.i n.forms,.i n.args,.i (fvK k),.i (vaK k),.i (hyK k)]
 |none=>[.bool false,.bool false,.i 0,.i 0,.i 0,.i 0,.i 0,.i 0]
abbrev Tl:=Nat×Bool
def tlT:List Tm→Tl→Bool×Tl
 |[],s=>(true,s)
 |t::l,s=>if t.err=2 then(false,(s.1+t.num.toNat,s.2||t.err==4)) else tlT l (s.1+t.num.toNat,s.2||t.err==4)
def tlF:List Fm→Tl→Bool×Tl
 |[],s=>(true,s)
 |t::l,s=>if t.err=2 then(false,(s.1+t.num.toNat,s.2||t.err==4)) else tlF l (s.1+t.num.toNat,s.2||t.err==4)
def Pf.hdA(p:Pf):Bool:=match ndP p.kind with
 |none=>false
 |some n=>p.terms.length==n.terms&&p.forms.length==n.forms&&p.args.length==n.args&&decide (0≤p.index)&&(n.index||p.index==0)
def Pf.hdT(p:Pf):Bool:=match ndP p.kind with
 |none=>false
 |some n=>if n.typ=true then p.ty.ok else p.ty.isNo
mutual
def tlP:Pf→Tl→Bool×Tl
 | .mk k i h ts fs zs,s=>
   if Pf.hdA (.mk k i h ts fs zs)=false then(false,s) else if Pf.hdT (.mk k i h ts fs zs)=false then(false,(s.1+1,s.2))
   else if(tlT ts (s.1+1,s.2)).1=false then tlT ts (s.1+1,s.2)
   else if(tlF fs (tlT ts (s.1+1,s.2)).2).1=false then tlF fs (tlT ts (s.1+1,s.2)).2
   else tlPs zs (tlF fs (tlT ts (s.1+1,s.2)).2).2
def tlPs:List Pf→Tl→Bool×Tl
 |[],s=>(true,s)
 |p::l,s=>if(tlP p s).1=false then tlP p s else tlPs l (tlP p s).2
end
def Pf.num(p:Pf):Int:=if p.err=0 then p.size else 0
theorem refl_inf{c:Ck}{s:Tm}(hk:kTyp c s 1=0)(he:(eqF s s).err=0):infP (reflP s) c=(eqF s s,[],0):=by
 rw[infP_eq]
 have e:ruleR (reflP s).kind (reflP s).index (reflP s).ty (reflP s).terms (reflP s).forms ((reflP s).args.map infP) c=reflR s c:=rfl
 rw[e]
 unfold reflR finR
 rw[hk,if_neg (by simp),if_neg (by simp[he])]
 simp only
 split<;>rfl
def substP(f:Fm)(p q:Pf):Pf:= .mk 19 0 (.mk 0 []) [] [f] [p,q]
theorem kTyp_of{c:Ck}(hc:c.ok){s:Tm}(he:s.err=0)(hi:s.inf c.tys=(natT,0)):kTyp c s 1=0:=by
 have e:typeOf c.tys s=(natT,0):=by
  unfold typeOf typed
  rw[if_neg (by simp[hc.ctx]),if_neg (by simp[he]),hi]
 unfold kTyp
 rw[e];rfl
structure NumOk (g:List Ty) (s:Tm):Prop where
 err:s.err=0
 inf:s.inf g=(natT,0)
 size:s.size≤900
theorem NumOk.shape{g:List Ty}{s:Tm}(h:NumOk g s):s.shape=true:=((Tm.err_iff s).1 h.err).1
theorem NumOk.near{g:List Ty}{s:Tm}(h:NumOk g s)(hg:g.length≤1000):s.near=true:=near_of (by rw[h.inf]) h.shape (by have:=h.size;omega)
theorem eqf_err{a b:Tm}(ha:a.shape=true)(hb:b.shape=true)(hz:a.size+b.size≤4095):(eqF a b).err=0:=
 (Fm.err_iff _).2 ⟨eqF_shape ha hb,by rw[eqF_size];omega⟩
theorem v0_inf(g:List Ty)(u:Ty):(vT 0).inf (g++[u])=(u,0):=by
 rw[inf_var' _ _ (by omega),if_neg (by simp)]
 have:look (g++[u]) 0=look [u] 0:=look_right (by simp)
 simp only[Int.toNat_zero]
 rw[this];rfl
theorem cntEq(a b:Tm):cntF 0 ((eqF a b).tms 0)=cnt 0 (a.vars 0)+cnt 0 (b.vars 0):=by
 simp[eqF,Fm.tms,Fm.tmss,cntF]
theorem nearEq{a b:Tm}(ha:a.near=true)(hb:b.near=true):(eqF a b).near=true:=by
 unfold Fm.near
 simp[eqF,Fm.tms,Fm.tmss,ha,hb]
structure SideOk (g:List Ty) (a b:Tm):Prop where
 sa:a.shape=true
 sb:b.shape=true
 ia:a.inf (g++[natT])=(natT,0)
 ib:b.inf (g++[natT])=(natT,0)
 sz:a.size+b.size≤3000
theorem SideOk.err{g:List Ty}{a b:Tm}(h:SideOk g a b):(eqF a b).err=0:=eqf_err h.sa h.sb (by have:=h.sz;omega)
theorem SideOk.near{g:List Ty}{a b:Tm}(h:SideOk g a b)(hg:g.length≤16):(eqF a b).near=true:=
 nearEq (near_of (by rw[h.ia]) h.sa (by have:=h.sz;simp;omega)) (near_of (by rw[h.ib]) h.sb (by have:=h.sz;simp;omega))
theorem SideOk.put{g:List Ty}{a b s:Tm}(h:SideOk g a b)(hg:g.length≤16)(hs:NumOk g s)(hz:1+a.size+b.size+(cnt 0 (a.vars 0)+cnt 0 (b.vars 0))*s.size≤4096):putFErr (eqF a b) 0 s=0:=by
 unfold putFErr
 rw[if_neg (by simp[h.err]),if_neg (by omega),if_neg (by simp[hs.err]),if_neg (by simp[h.near hg,hs.near (by omega)]),if_neg]
 rw[cntEq,eqF_size]
 have hp:=s.size_pos
 have hm:(cnt 0 (a.vars 0)+cnt 0 (b.vars 0))*(s.size-1)≤(cnt 0 (a.vars 0)+cnt 0 (b.vars 0))*s.size:=Nat.mul_le_mul_left _ (by omega)
 have e:(((cnt 0 (a.vars 0)+cnt 0 (b.vars 0):Nat):Int)*((s.size:Int)-1))=(((cnt 0 (a.vars 0)+cnt 0 (b.vars 0))*(s.size-1):Nat):Int):=by
  rw[Int.natCast_mul];congr 1;omega
 rw[e]
 omega
def symP(s:Tm)(p:Pf):Pf:=substP (eqF (vT 0) (s.re (liftG 0 1) 0)) p (reflP s)
def transP(s:Tm)(p q:Pf):Pf:=substP (eqF (s.re (liftG 0 1) 0) (vT 0)) q p
def congP(g s:Tm)(p:Pf):Pf:=substP (eqF (apT (g.re (liftG 0 1) 0) (s.re (liftG 0 1) 0)) (apT (g.re (liftG 0 1) 0) (vT 0))) p (reflP (apT g s))
def injP(s:Tm)(p:Pf):Pf:=substP (eqF (s.re (liftG 0 1) 0) (apT predT (vT 0))) p (reflP s)
def eitherT(s t n:Tm):Tm:= .mk 6 0 natT [s,lmT natT (lmT natT (t.re (liftG 0 2) 0)),n]
def absurdP(p:Pf):Pf:=substP (eqF zT (eitherT zT (sT zT) (vT 0))) p (reflP zT)
theorem NumOk.refl{c:Ck}(hc:c.ok){s:Tm}(h:NumOk c.tys s):infP (reflP s) c=(eqF s s,[],0):=
 refl_inf (kTyp_of hc h.err h.inf) (eqf_err h.shape h.shape (by have:=h.size;omega))
structure FunOk (g:List Ty) (f:Tm):Prop where
 err:f.err=0
 inf:f.inf g=(funT natT natT,0)
 size:f.size≤500
def Dk.fms:Nat→Dk→List Ty→List Fm×Dk
 |0,d,_=>([],d)
 |n+1,d,g=>((Dk.fm 2 d g).1::(Dk.fms n (Dk.fm 2 d g).2 g).1,(Dk.fms n (Dk.fm 2 d g).2 g).2)
def Dk.sqN(d:Dk):Nat:=(d.ctx.2.next 3).1.toNat
def Dk.sqH(d:Dk):List Fm:=(Dk.fms d.sqN (d.ctx.2.next 3).2 d.ctx.1).1
def Dk.sqD(d:Dk):Dk:=(Dk.fms d.sqN (d.ctx.2.next 3).2 d.ctx.1).2
def Dk.sqC(d:Dk):Ck:=⟨[],d.ctx.1,d.sqH⟩
def Dk.w0(d:Dk):Tm×Dk:=Dk.tm 3 d.sqD d.ctx.1 natT
def Dk.w1(d:Dk):Tm×Dk:=Dk.tm 3 d.w0.2 d.ctx.1 natT
def Dk.w2(d:Dk):Tm×Dk:=Dk.tm 3 d.w1.2 d.ctx.1 natT
def Dk.wH(d:Dk):List Fm:=d.sqH++[eqF d.w0.1 d.w1.1,eqF d.w1.1 d.w2.1]
def Dk.wC(d:Dk):Ck:=⟨[],d.ctx.1,d.wH⟩
abbrev hypP(i:Int):Pf:= .mk 1 i (.mk 0 []) [] [] []
theorem reflP_err{s:Tm}(h:s.err=0):(reflP s).err=0:=by
 have h1:=(Tm.err_iff s).1 h
 rw[Pf.err_iff]
 refine⟨?_,?_,?_⟩
 ·rw [Pf.shape_eq]
  simp[reflP,Pf.head,ndP,h1.1,Ty.isNo,Ty.kind,Ty.args]
 ·rw [Pf.small_eq];simp[reflP,h1.2]
 ·rw [Pf.size_eq];simp[reflP];omega
theorem reflP_size(s:Tm):(reflP s).size=1+s.size:=by rw[Pf.size_eq];simp[reflP]
def lim(e:Int):Prop:=e=0∨e=4∨e=5∨e=3
def Dk.nH(d:Dk):List Fm:=d.wH++[eqF (sT d.w0.1) (sT d.w2.1),eqF zT (sT d.w1.1)]
def Dk.nC(d:Dk):Ck:=⟨[],d.ctx.1,d.nH⟩
theorem re_pt{g g':Int→Int→Tm}(h:∀i c,g i c=g' i c)(t:Tm)(b:Int):t.re g b=t.re g' b:=by
 have:g=g':=funext fun i=>funext fun c=>h i c
 rw[this]
theorem Fm.re_shift(G:Int→Tm→Tm)(c:Int)(f:Fm):∀b,f.re G (b+c)=f.re (fun b t=>G (b+c) t) b:=by
 induction f using Fm.ind with
 |h f ih=>
  intro b
  have e:upF f.kind (b+c)=upF f.kind b+c:=by simp only[upF];split<;>omega
  rw[Fm.re_eq,Fm.re_eq,e]
  congr 1
  exact List.map_congr_left fun x hx=>ih x hx _
theorem Fm.re_pt{G G':Int→Tm→Tm}(h:∀b t,0≤b→G b t=G' b t)(f:Fm):f.re G 0=f.re G' 0:=by
 refine Fm.re_congr f 0 fun p hp=>h _ _ ?_
 exact tms_snd p hp
theorem fput_at(f:Fm)(a:Int)(s:Tm):f.put a s=f.re (fun b t=>t.re (putG (a+b) s) 0) 0:=rfl
theorem put_qu{k:Int}(hk:quantK k=true)(s:Ty)(f:Fm)(a:Int)(x:Tm):(quF k s f).put a x=quF k s (f.put (a+1) x):=by
 rw[fput_at,Fm.re_eq]
 simp only[quF,Fm.kind,Fm.ty,Fm.terms,Fm.args,List.map_nil,List.map_cons]
 congr 2
 have e:upF k 0=0+1:=by simp[upF,hk]
 rw[e,Fm.re_shift,fput_at]
 refine Fm.re_pt (fun b t _=> ?_) f
 rw[show a+(b+1)=a+1+b by omega]
structure Gf (g:List Ty) (f:Fm) (n:Nat):Prop where
 sh:f.shape=true
 sz:f.size≤n
 ok:f.okT g
structure Gt (g:List Ty) (s:Tm) (T:Ty) (m:Nat):Prop where
 sh:s.shape=true
 sz:s.size≤m
 inf:s.inf g=(T,0)
theorem Gf.err{g:List Ty}{f:Fm}{n:Nat}(h:Gf g f n)(hn:n≤4096):f.err=0:=(Fm.err_iff f).2 ⟨h.sh,Nat.le_trans h.sz hn⟩
theorem Gt.err{g:List Ty}{s:Tm}{T:Ty}{m:Nat}(h:Gt g s T m)(hn:m≤4096):s.err=0:=(Tm.err_iff s).2 ⟨h.sh,Nat.le_trans h.sz hn⟩
theorem cntF_le_size(f:Fm)(a:Int):cntF a (f.tms 0)≤f.size:=by
 have h1:=cntF_le a (f.tms 0)
 have h2:=tms_size f 0
 omega
theorem Gf.put{g:List Ty}{f:Fm}{n m:Nat}{s:Tm}{T:Ty}(hf:Gf (g++[T]) f n)(hs:Gt g s T m)(hm:1≤m)(hz:n*m≤4096)(hg:g.length≤20):
 putFErr f 0 s=0∧Gf g (f.put 0 s) (n*m):=by
 have hn:n≤n*m:=Nat.le_mul_of_pos_right n hm
 have ef:=hf.err (by omega)
 have hp:=s.size_pos
 have p2:=f.size_pos
 have hmz:m≤4096:=by
  have:1*m≤n*m:=Nat.mul_le_mul_right m (by have:=hf.sz;omega)
  omega
 have es:=hs.err hmz
 have nf:=(fokT_near hf.ok ef (by simp;omega)).1
 have ns:=near_of (t:=s) (g:=g) (by rw[hs.inf]) hs.sh (by have:=hs.sz;omega)
 have hc:=cntF_le_size f 0
 have h1:cntF 0 (f.tms 0)*(s.size-1)≤n*(m-1):=Nat.mul_le_mul (Nat.le_trans hc hf.sz) (by have:=hs.sz;omega)
 have h2:n*(m-1)+n=n*m:=by rw[←Nat.mul_succ];congr 1;omega
 have h3:=hf.sz
 refine⟨?_,fput_shape (by omega) hs.sh hf.sh,?_,?_⟩
 ·unfold putFErr
  rw[if_neg (by simp[ef]),if_neg (by omega),if_neg (by simp[es]),if_neg (by simp[nf,ns]),if_neg]
  have e:((cntF 0 (f.tms 0):Int)*((s.size:Int)-1))=((cntF 0 (f.tms 0)*(s.size-1):Nat):Int):=by
   rw[Int.natCast_mul];congr 1;omega
  rw[e]
  omega
 ·have h4:=fput_size 0 s hs.sh f hf.sh 0
  have h5:(f.put 0 s).size=f.size+cntF 0 (f.tms 0)*(s.size-1):=h4
  omega
 ·have h6:=fokT_put 0 s g T hs.sh hs.inf f [] 0 rfl hf.sh (by simpa using hf.ok)
  have h7:(f.put 0 s).okT (g++[]):=h6
  simpa using h7
theorem Gf.lft{g h:List Ty}(m:List Ty){f:Fm}{n:Nat}(hf:Gf (g++h) f n):Gf (g++m++h) (f.lft h.length m.length) n:=
 have hk:=lft_keeps hf.sh (fr:=h.length) (by_:=m.length) (by omega)
 ⟨hk.1,by rw[hk.2.1];exact hf.sz,lft_okTs m hf.sh hf.ok⟩
theorem Gt.zero(g:List Ty):Gt g zT natT 1:=⟨by decide,by decide,zT_inf g⟩
theorem Gt.nil(g:List Ty):Gt g nilM listT 1:=⟨by decide,by decide,nil_inf g⟩
theorem Gt.v0(g:List Ty)(u:Ty):Gt (g++[u]) (vT 0) u 1:=⟨by decide,by decide,v0_inf g u⟩
theorem Gt.v1(g:List Ty)(u w:Ty):Gt (g++[u,w]) (vT 1) u 1:=by
 refine⟨by decide,by decide,?_⟩
 rw[inf_var' _ _ (by omega),if_neg (by simp;omega)]
 have:look (g++[u,w]) 1=look [u,w] 1:=look_right (by simp)
 simp only[show(1:Int).toNat=1 from rfl]
 rw[this];rfl
theorem Gt.cons(g:List Ty):Gt (g++[natT,listT]) consM listT 3:=by
 have h1:=(Gt.v1 g natT listT).inf
 have h0:(vT 0).inf (g++[natT,listT])=(listT,0):=by
  have:=(Gt.v0 (g++[natT]) listT).inf
  simpa using this
 exact⟨by decide,by decide,by
  have e:consM.inf (g++[natT,listT])=(listT,0):=by simp[consM,Tm.inf,Tm.infs,rule,h0,h1]
  exact e⟩
def numbersP(f:Fm)(p q:Pf):Pf:= .mk 8 0 natT [] [] [.mk 16 0 (.mk 0 []) [vT 0] [f.lft 1 1] [p,.mk 9 0 (.mk 0 []) [vT 0] [] [q]]]
def listsP(f:Fm)(p q:Pf):Pf:= .mk 8 0 listT [] [] [.mk 17 0 (.mk 0 []) [vT 0] [f.lft 1 1] [p,.mk 9 0 (.mk 0 []) [vT 0] [] [.mk 9 0 (.mk 0 []) [vT 1] [] [q]]]]
end Go.Ab
namespace Go.Ab
open Go
set_option linter.all false
set_option maxHeartbeats 1000000
def Dk.cf(d:Dk):Fm×Dk:=Dk.fm 2 d.sqD (d.ctx.1++[natT])
def Dk.cg(d:Dk):Fm×Dk:=Dk.fm 2 d.cf.2 (d.ctx.1++[listT])
def zeroH(f:Fm):Fm:=f.put 0 zT
def nextH(f:Fm):Fm:=(f.lft 1 1).put 0 (sT (vT 0))
def noneH(f:Fm):Fm:=f.put 0 nilM
def consH(f:Fm):Fm:=(f.lft 1 2).put 0 consM
def Dk.cH(d:Dk):List Fm:=d.sqH++[zeroH d.cf.1,quF 4 natT (nextH d.cf.1),noneH d.cg.1,quF 4 natT (quF 4 listT (consH d.cg.1))]
def Dk.cC(d:Dk):Ck:=⟨[],d.ctx.1,d.cH⟩
end Go.Ab
namespace Go.Ab
open Go
set_option linter.all false
mutual
def Pf.up(fr b v:Int):Pf→Pf
 | .mk k i s ts fs zs=> .mk k i s (ts.map fun t=>t.re (liftG (fr+v) b) 0) (fs.map fun f=>f.lft (fr+(v+fvK k)) b) (Pf.ups fr b v (vaK k) zs)
def Pf.ups(fr b v w:Int):List Pf→List Pf
 |[]=>[]
 |p::l=>Pf.up fr b (if l.length=0 then v+w else v) p::Pf.ups fr b v w l
end
mutual
def Pf.lh(fr b y:Int):Pf→Pf
 | .mk k i s ts fs zs=>if k=1 then .mk 1 (if i-y≥fr then i+b else i) (.mk 0 []) [] [] [] else .mk k i s ts fs (Pf.lhs fr b y (hyK k) zs)
def Pf.lhs(fr b y w:Int):List Pf→List Pf
 |[]=>[]
 |p::l=>Pf.lh fr b (if l.length=0 then y+w else y) p::Pf.lhs fr b y w l
end
mutual
def Pf.ix(C:Int):Pf→Prop
 | .mk _ _ _ ts fs zs=>(∀t∈ts,∀p∈t.vars 0,0≤p.1∧p.1<C)∧(∀f∈fs,∀p∈f.tms 0,∀q∈p.1.vars 0,0≤q.1∧q.1<C)∧Pf.ixs C zs
def Pf.ixs(C:Int):List Pf→Prop
 |[]=>True
 |p::l=>Pf.ix C p∧Pf.ixs C l
end
theorem ixs_iff(C:Int):∀l:List Pf,Pf.ixs C l↔∀p∈l,p.ix C
 |[]=>by simp[Pf.ixs]
 |p::l=>by simp[Pf.ixs,ixs_iff C l]
theorem Pf.ix_iff(C:Int)(p:Pf):p.ix C↔(∀t∈p.terms,∀q∈t.vars 0,0≤q.1∧q.1<C)∧(∀f∈p.forms,∀q∈f.tms 0,∀r∈q.1.vars 0,0≤r.1∧r.1<C)∧∀x∈p.args,x.ix C:=by
 cases p;simp only[Pf.ix,ixs_iff];rfl
mutual
def Pf.hx(C:Int):Pf→Prop
 | .mk k i _ _ _ zs=>if k=1 then 0≤i∧i<C else Pf.hxs C zs
def Pf.hxs(C:Int):List Pf→Prop
 |[]=>True
 |p::l=>Pf.hx C p∧Pf.hxs C l
end
theorem hxs_iff(C:Int):∀l:List Pf,Pf.hxs C l↔∀p∈l,p.hx C
 |[]=>by simp[Pf.hxs]
 |p::l=>by simp[Pf.hxs,hxs_iff C l]
theorem Pf.hx_iff(C:Int)(p:Pf):p.hx C↔(p.kind=1→0≤p.index∧p.index<C)∧(p.kind≠1→∀x∈p.args,x.hx C):=by
 cases p with
 |mk k i s ts fs zs=>
  by_cases h:k=1
  ·simp [Pf.hx,h,Pf.kind,Pf.index]
  ·simp [Pf.hx,h,hxs_iff,Pf.kind,Pf.args]
end Go.Ab
namespace Go.Ab
open Go
set_option linter.all false
set_option maxHeartbeats 1000000
inductive FP:Fm→Fm→Prop
 |refl (f):FP f f
 |eq {a b b'} (h:Pst b b'):FP (eqF a b) (eqF a b')
 |two {k a a' b b'} (ha:FP a a') (hb:FP b b'):FP (twoF k a b) (twoF k a' b')
 |qu {k s a a'} (ha:FP a a'):FP (quF k s a) (quF k s a')
def lim3(e:Int):Prop:=e=0∨e=4∨e=5
mutual
def Fm.dp:Fm→Nat
 | .mk _ _ _ zs=>1+Fm.dps zs
def Fm.dps:List Fm→Nat
 |[]=>0
 |f::l=>Fm.dp f+Fm.dps l
end
def arg(f:Fm)(i:Nat):Fm:=f.args.getD i noFm
def trm(f:Fm)(i:Nat):Tm:=f.terms.getD i noTm
def exM(s t:Tm):Fm:=eqF (s.re (liftG 0 1) 0) (eitherT (s.re (liftG 0 1) 0) (t.re (liftG 0 1) 0) (vT 0))
def noth:Nat→Int→Fm→Int→Pf×Int
 |0,_,_,h=>(hypP h,-1)
 |n+1,r,f,h=>
  if r-f.num<0∨f.err≠0 then(hypP h,-1)
  else if f.kind=2 then(.mk 3 0 (.mk 0 []) [] [] [(noth n (r-f.num) (arg f 0) h).1,(noth n (noth n (r-f.num) (arg f 0) h).2 (arg f 1) h).1],(noth n (noth n (r-f.num) (arg f 0) h).2 (arg f 1) h).2)
  else if f.kind=3 then(.mk 6 0 (.mk 0 []) [] [arg f 0] [(noth n (r-f.num) (arg f 1) (h+1)).1],(noth n (r-f.num) (arg f 1) (h+1)).2)
  else if f.kind=4∨f.kind=6 then(.mk (if f.kind=6 then 12 else 8) 0 f.ty [] [] [(noth n (r-f.num) (arg f 0) h).1],(noth n (r-f.num) (arg f 0) h).2)
  else if f.kind=5∨f.kind=7 then
   if putFErr (arg f 0) 0 (dfl f.ty)≠0 then(hypP h,-1)
   else(.mk (if f.kind=7 then 14 else 10) 0 (.mk 0 []) [dfl f.ty] [f] [(noth n (r-f.num) ((arg f 0).put 0 (dfl f.ty)) h).1],(noth n (r-f.num) ((arg f 0).put 0 (dfl f.ty)) h).2)
  else(substP (exM (trm f 0) (trm f 1)) (hypP h) (reflP (trm f 0)),r-f.num)
def Acc(c:Ck)(p:Pf)(f:Fm):Prop:=(∃x,infP p c=(x,[],0)∧FP x f∧x.err=0∧x.okT c.tys)∨∃e,infP p c=noRes e∧(e=3∨e=4∨e=5)
def exfP(out p:Pf):Pf:= .mk 7 0 (.mk 0 []) [] [] [.mk 6 0 (.mk 0 []) [] [falseF] [out],p]
theorem pf_full1(k i:Int)(s:Ty)(ts:List Tm)(fs:List Fm)(zs:List Pf):(Pf.mk k i s ts fs zs).full=1+s.size+(ts.map Tm.full).sum+(fs.map Fm.full).sum+(zs.map Pf.full).sum:=Pf.full_eq _
theorem no_size:(Ty.mk 0 []).size=1:=by decide
theorem ty_size{s:Ty}(h:s.err=0):s.size≤64:=((Ty.err_iff s).1 h).2
def doneQ(p:Pf):Pf×Int:=if p.err=0 then(p,0) else(noPf,4)
def exfR(n:Nat)(f:Fm)(p:Pf):Pf×Int:=if(noth n 262144 f 0).2<0 then(noPf,4) else doneQ (exfP (noth n 262144 f 0).1 p)
def Dk.xf(d:Dk):Fm×Dk:=Dk.fm 3 d.sqD d.ctx.1
def Dk.xC(d:Dk):Ck:=⟨[],d.ctx.1,d.sqH++[falseF]⟩
def Tw:Nat→Nat→Fm→Prop
 |0,L,f=>∃s t,f=eqF s t∧f.size≤L
 |n+1,L,f=>(∃s t,f=eqF s t∧f.size≤L)∨(∃k a b,(k=2∨k=3)∧f=twoF k a b∧Tw n L a∧Tw n L b)∨∃k s a,(4≤k∧k≤7)∧s.small∧f=quF k s a∧Tw n L a
theorem Tw.size:∀{n L:Nat} {f:Fm},Tw n L f→f.size+1≤(L+1)*2^n
 |0,L,f,⟨s,t,e,h⟩=>by simp;omega
 |n+1,L,f,h=>by
  have hp:1≤2^n:=Nat.one_le_two_pow
  have h2:(L+1)*2^(n+1)=2*((L+1)*2^n):=by rw[Nat.pow_succ];simp[Nat.mul_comm,Nat.mul_left_comm]
  have h3:(L+1)*1≤(L+1)*2^n:=Nat.mul_le_mul_left _ hp
  rcases h with⟨s,t,e,h⟩|⟨k,a,b,hk,e,ha,hb⟩|⟨k,s,a,hk,hs,e,ha⟩
  ·omega
  ·have h4:=ha.size
   have h5:=hb.size
   rw[e,twoF_size];omega
  ·have h4:=ha.size
   rw[e,quF_size];omega
theorem Tw.up{n L:Nat}{f:Fm}(h:Tw n L f):Tw (n+1) L f:=by
 induction n generalizing f with
 |zero=>exact .inl h
 |succ n ih=>
  rcases h with h|⟨k,a,b,hk,e,ha,hb⟩|⟨k,s,a,hk,hs,e,ha⟩
  ·exact .inl h
  ·exact .inr (.inl ⟨k,a,b,hk,e,ih ha,ih hb⟩)
  ·exact .inr (.inr ⟨k,s,a,hk,hs,e,ih ha⟩)
theorem put_two{k:Int}(hk:k=2∨k=3)(a b:Fm)(i:Int)(x:Tm):(twoF k a b).put i x=twoF k (a.put i x) (b.put i x):=by
 rw[fput_at,Fm.re_eq]
 have e:upF k 0=0:=by rcases hk with rfl|rfl<;>rfl
 simp only[twoF,Fm.kind,Fm.ty,Fm.terms,Fm.args,List.map_nil,List.map_cons]
 rw[e];rfl
theorem Tw.put:∀{n L:Nat} {f:Fm},Tw n L f→f.shape=true→∀(i:Int) (x:Tm),0≤i→x.shape=true→x.size≤3→Tw n (3*L) (f.put i x)
 |0,L,f,⟨s,t,e,h⟩,hs,i,x,hi,hx,hz=>by
  have h1:=fput_size i x hx f hs 0
  have h2:(f.put i x).size=f.size+cntF i (f.tms 0)*(x.size-1):=h1
  have h3:=cntF_le_size f i
  have h4:cntF i (f.tms 0)*(x.size-1)≤f.size*2:=Nat.mul_le_mul h3 (by omega)
  subst e
  exact⟨s.re (putG (i+0) x) 0,t.re (putG (i+0) x) 0,rfl,by omega⟩
 |n+1,L,f,h,hs,i,x,hi,hx,hz=>by
  rcases h with⟨s,t,e,h⟩|⟨k,a,b,hk,e,ha,hb⟩|⟨k,s,a,hk,hsm,e,ha⟩
  ·exact Tw.up' (Tw.put (n:=0) ⟨s,t,e,h⟩ hs i x hi hx hz)
  ·subst e
   have sa:a.shape=true:=fshape_args hs (x:=a) (by simp[twoF])
   have sb:b.shape=true:=fshape_args hs (x:=b) (by simp[twoF])
   rw[put_two hk]
   exact .inr (.inl ⟨k,_,_,hk,rfl,Tw.put ha sa i x hi hx hz,Tw.put hb sb i x hi hx hz⟩)
  ·subst e
   have sa:a.shape=true:=fshape_args hs (x:=a) (by simp[quF])
   rw[put_qu (quantK_iff.2 hk)]
   exact .inr (.inr ⟨k,s,_,hk,hsm,rfl,Tw.put ha sa (i+1) x (by omega) hx hz⟩)
where
 Tw.up' {n L:Nat} {f:Fm} (h:Tw 0 L f):Tw (n+1) L f:= .inl h
def cost:Nat→Nat→Nat
 |0,L=>L
 |n+1,L=>(L+1)*2^(n+1)+2*cost n L+cost n (3*L)
def psz:Nat→Nat→Nat
 |0,L=>3*L+8
 |n+1,L=>10+3*L+(L+1)*2^(n+1)+2*psz n L+psz n (3*L)
structure Pg (p:Pf) (n:Nat):Prop where
 sh:p.shape=true
 sm:p.small=true
 sz:p.size≤n
theorem Pg.err{p:Pf}{n:Nat}(h:Pg p n)(hn:n≤16384):p.err=0:=(Pf.err_iff p).2 ⟨h.sh,h.sm,Nat.le_trans h.sz hn⟩
theorem Pg.of{p:Pf}(h:p.err=0):Pg p p.size:=have h1:=(Pf.err_iff p).1 h;⟨h1.1,h1.2.1,Nat.le_refl _⟩
theorem Pg.mono{p:Pf}{n m:Nat}(h:Pg p n)(hn:n≤m):Pg p m:=⟨h.sh,h.sm,Nat.le_trans h.sz hn⟩
theorem pf_size1(k i:Int)(s:Ty)(ts:List Tm)(fs:List Fm)(zs:List Pf):(Pf.mk k i s ts fs zs).size=1+(ts.map Tm.size).sum+(fs.map Fm.size).sum+(zs.map Pf.size).sum:=Pf.size_eq _
theorem Pg.imp{p:Pf}{f:Fm}{n m:Nat}(hf:f.shape=true)(hz:f.size≤m)(hm:m≤4096)(hp:Pg p n):Pg (.mk 6 0 (.mk 0 []) [] [f] [p]) (1+m+n):=by
 refine⟨?_,?_,?_⟩
 ·simp [Pf.shape,Pf.shapes,Pf.head,ndP,hp.sh,hf,Ty.isNo,Ty.kind,Ty.args]
 ·simp [Pf.small,Pf.smalls,hp.sm];omega
 ·have:=hp.sz
  simp only[pf_size1,List.map_cons,List.map_nil,List.sum_cons,List.sum_nil];omega
theorem Pg.all{k:Int}{p:Pf}{s:Ty}{n:Nat}(hk:k=8∨k=12)(hs:s.err=0)(hp:Pg p n):Pg (.mk k 0 s [] [] [p]) (1+n):=by
 have ho:s.ok=true:=by
  have h1:=(Ty.err_iff s).1 hs
  simp only[Ty.ok,Bool.and_eq_true,decide_eq_true_eq];exact h1
 refine⟨?_,?_,?_⟩
 ·rcases hk with rfl|rfl<;>simp[Pf.shape,Pf.shapes,Pf.head,ndP,hp.sh,ho]
 ·simp [Pf.small,Pf.smalls,hp.sm]
 ·have:=hp.sz
  simp only[pf_size1,List.map_cons,List.map_nil,List.sum_cons,List.sum_nil];omega
theorem Pg.ex{k:Int}{p:Pf}{t:Tm}{f:Fm}{n m z:Nat}(hk:k=10∨k=14)(ht:t.shape=true)(hz:t.size≤z)(hz2:z≤4096)(hf:f.shape=true)(hm:f.size≤m)(hm2:m≤4096)(hp:Pg p n):Pg (.mk k 0 (.mk 0 []) [t] [f] [p]) (1+z+m+n):=by
 refine⟨?_,?_,?_⟩
 ·rcases hk with rfl|rfl<;>simp[Pf.shape,Pf.shapes,Pf.head,ndP,hp.sh,ht,hf,Ty.isNo,Ty.kind,Ty.args]
 ·simp [Pf.small,Pf.smalls,hp.sm];omega
 ·have:=hp.sz
  simp only[pf_size1,List.map_cons,List.map_nil,List.sum_cons,List.sum_nil];omega
theorem Pg.refl{t:Tm}{n:Nat}(ht:t.shape=true)(hz:t.size≤n)(hn:n≤4096):Pg (reflP t) (1+n):=by
 have h:=Pg.of (reflP_err (s:=t) ((Tm.err_iff t).2 ⟨ht,by omega⟩))
 rw[reflP_size] at h
 exact h.mono (by omega)
def orB(a b:Fm):Fm:=twoF 2 (twoF 3 zeroF (a.lft 0 1)) (twoF 3 (notF zeroF) (b.lft 0 1))
def orA(a b:Fm):Fm:=orF (a.lft 0 1) (b.lft 0 1)
def impEP(p q:Pf):Pf:= .mk 7 0 (.mk 0 []) [] [] [p,q]
def impP(f:Fm)(p:Pf):Pf:= .mk 6 0 (.mk 0 []) [] [f] [p]
def andP(p q:Pf):Pf:= .mk 3 0 (.mk 0 []) [] [] [p,q]
def someP(f:Fm)(t:Tm)(p:Pf):Pf:= .mk 10 0 (.mk 0 []) [t] [f] [p]
def leftP(a b:Fm)(i:Int)(x:Pf):Pf:=someP (orA a b) zT (andP (impP (eqF zT zT) (hypP (i+1))) (impP (notF (eqF zT zT)) (exfP x (impEP (hypP 0) (reflP zT)))))
def rightP(a b:Fm)(i:Int)(x:Pf):Pf:=someP (orA a b) (sT zT) (andP (impP (eqF (sT zT) zT) (exfP x (symP (sT zT) (hypP 0)))) (impP (notF (eqF (sT zT) zT)) (hypP (i+1))))
def knownF(x:Tm)(a b:Fm)(n:Int):Fm:=twoF 2 (twoF 3 (eqF x zT) (a.lft 0 n)) (twoF 3 (notF (eqF x zT)) (b.lft 0 n))
def caseF(a b c:Fm):Fm:=twoF 3 (knownF (vT 0) a b 2) (c.lft 0 2)
def nxT:Tm:=sT (vT 0)
def andLP(p:Pf):Pf:= .mk 4 0 (.mk 0 []) [] [] [p]
def andRP(p:Pf):Pf:= .mk 5 0 (.mk 0 []) [] [] [p]
def caseB(a b:Fm)(q:Pf):Pf:=impP (knownF zT a b 1) (impEP q (impEP (andLP (hypP 0)) (reflP zT)))
def difP:Pf:=impP (eqF nxT zT) (absurdP (symP nxT (hypP 0)))
def caseS(a b:Fm)(r:Pf):Pf:=impP (knownF nxT a b 2) (impEP r (impEP (andRP (hypP 0)) difP))
def indP(f:Fm)(t:Tm)(p q:Pf):Pf:= .mk 16 0 (.mk 0 []) [t] [f] [p,q]
def casesP(a b c:Fm)(p q r:Pf):Pf:= .mk 11 0 (.mk 0 []) [] [] [p,impEP (indP (caseF a b c) (vT 0) (caseB a b q) (caseS a b r)) (hypP 0)]
theorem Pg.some{p:Pf}{t:Tm}{f:Fm}{n m z:Nat}(ht:t.shape=true)(hz:t.size≤z)(hz2:z≤4096)(hf:f.shape=true)(hm:f.size≤m)(hm2:m≤4096)(hp:Pg p n):Pg (someP f t p) (1+z+m+n):=Pg.ex (.inl rfl) ht hz hz2 hf hm hm2 hp
def Dk.oA(d:Dk):Fm×Dk:=Dk.fm 2 d.sqD d.ctx.1
def Dk.oB(d:Dk):Fm×Dk:=Dk.fm 2 d.oA.2 d.ctx.1
def Dk.oC(d:Dk):Fm×Dk:=Dk.fm 1 d.oB.2 d.ctx.1
def Dk.oH(d:Dk):List Fm:=d.sqH++[d.oA.1,d.oB.1,orA d.oA.1 d.oB.1,twoF 3 d.oA.1 d.oC.1,twoF 3 d.oB.1 d.oC.1]
def Dk.oK(d:Dk):Ck:=⟨[],d.ctx.1,d.oH⟩
def Dk.oL(d:Dk):Pf:=leftP d.oA.1 d.oB.1 4 (noth d.oB.1.dp 262144 d.oB.1 0).1
def Dk.oR(d:Dk):Pf:=rightP d.oA.1 d.oB.1 3 (noth d.oA.1.dp 262144 d.oA.1 0).1
def Dk.oX(d:Dk):Pf:=casesP d.oA.1 d.oB.1 d.oC.1 (hypP 2) (hypP 3) (hypP 3)
end Go.Ab
namespace Go.Ab
open Go
set_option linter.all false
abbrev w64(n:Int):Int:=IntKind.i64.wrap n
def liftW(fr by_:Int)(i b:Int):Tm:= .mk 1 (if w64 (i-b)≥fr then w64 (i+by_) else i) (.mk 0 []) []
def Tm.lw(t:Tm)(fr by_:Int):Tm:=t.re (liftW fr by_) 0
def Fm.lw(f:Fm)(fr by_:Int):Fm:=f.re (fun b t=>t.lw (fr+b) by_) 0
mutual
def Pf.uw(fr b v:Int):Pf→Pf
 | .mk k i s ts fs zs=> .mk k i s (ts.map fun t=>t.lw (fr+v) b) (fs.map fun f=>f.lw (fr+(v+fvK k)) b) (Pf.uws fr b v (vaK k) zs)
def Pf.uws(fr b v w:Int):List Pf→List Pf
 |[]=>[]
 |p::l=>Pf.uw fr b (if l.length=0 then v+w else v) p::Pf.uws fr b v w l
end
mutual
def Pf.hw(fr b y:Int):Pf→Pf
 | .mk k i s ts fs zs=>if k=1 then .mk 1 (if w64 (i-y)≥fr then w64 (i+b) else i) (.mk 0 []) [] [] [] else .mk k i s ts fs (Pf.hws fr b y (hyK k) zs)
def Pf.hws(fr b y w:Int):List Pf→List Pf
 |[]=>[]
 |p::l=>Pf.hw fr b (if l.length=0 then y+w else y) p::Pf.hws fr b y w l
end
mutual
def Pf.nd:Pf→Prop
 | .mk k _ _ _ _ zs=>(∃n,ndP k=some n∧zs.length=n.args)∧Pf.nds zs
def Pf.nds:List Pf→Prop
 |[]=>True
 |p::l=>Pf.nd p∧Pf.nds l
end
def Pf.uph(p:Pf)(v h:Int):Pf:=(p.uw 0 v 0).hw 0 h 0
def symW(s:Tm)(p:Pf):Pf:=substP (eqF (vT 0) (s.lw 0 1)) p (reflP s)
def transW(s:Tm)(p q:Pf):Pf:=substP (eqF (s.lw 0 1) (vT 0)) q p
def congW(g s:Tm)(p:Pf):Pf:=substP (eqF (apT (g.lw 0 1) (s.lw 0 1)) (apT (g.lw 0 1) (vT 0))) p (reflP (apT g s))
def injW(s:Tm)(p:Pf):Pf:=substP (eqF (s.lw 0 1) (apT predT (vT 0))) p (reflP s)
def eitherW(s t n:Tm):Tm:= .mk 6 0 natT [s,lmT natT (lmT natT (t.lw 0 2)),n]
def exW(s t:Tm):Fm:=eqF (s.lw 0 1) (eitherW (s.lw 0 1) (t.lw 0 1) (vT 0))
def nothW:Nat→Int→Fm→Int→Pf×Int
 |0,_,_,h=>(hypP h,-1)
 |n+1,r,f,h=>
  if r-f.num<0∨f.err≠0 then(hypP h,-1)
  else if f.kind=2 then(.mk 3 0 (.mk 0 []) [] [] [(nothW n (r-f.num) (arg f 0) h).1,(nothW n (nothW n (r-f.num) (arg f 0) h).2 (arg f 1) h).1],(nothW n (nothW n (r-f.num) (arg f 0) h).2 (arg f 1) h).2)
  else if f.kind=3 then(.mk 6 0 (.mk 0 []) [] [arg f 0] [(nothW n (r-f.num) (arg f 1) (h+1)).1],(nothW n (r-f.num) (arg f 1) (h+1)).2)
  else if f.kind=4∨f.kind=6 then(.mk (if f.kind=6 then 12 else 8) 0 f.ty [] [] [(nothW n (r-f.num) (arg f 0) h).1],(nothW n (r-f.num) (arg f 0) h).2)
  else if f.kind=5∨f.kind=7 then
   if putFErr (arg f 0) 0 (dfl f.ty)≠0 then(hypP h,-1)
   else(.mk (if f.kind=7 then 14 else 10) 0 (.mk 0 []) [dfl f.ty] [f] [(nothW n (r-f.num) ((arg f 0).put 0 (dfl f.ty)) h).1],(nothW n (r-f.num) ((arg f 0).put 0 (dfl f.ty)) h).2)
  else(substP (exW (trm f 0) (trm f 1)) (hypP h) (reflP (trm f 0)),r-f.num)
def lftW(a b:Fm)(p x:Pf):Pf:=someP (orA a b) zT (andP (impP (eqF zT zT) (p.uph 0 1)) (impP (notF (eqF zT zT)) (exfP x (impEP (hypP 0) (reflP zT)))))
def rgtW(a b:Fm)(p x:Pf):Pf:=someP (orA a b) (sT zT) (andP (impP (eqF (sT zT) zT) (exfP x (symW (sT zT) (hypP 0)))) (impP (notF (eqF (sT zT) zT)) (p.uph 0 1)))
def knownW(x:Tm)(a b:Fm)(n:Int):Fm:=twoF 2 (twoF 3 (eqF x zT) (a.lw 0 n)) (twoF 3 (notF (eqF x zT)) (b.lw 0 n))
def caseWF(a b c:Fm):Fm:=twoF 3 (knownW (vT 0) a b 2) (c.lw 0 2)
def caseWB(a b:Fm)(q:Pf):Pf:=impP (knownW zT a b 1) (impEP q (impEP (andLP (hypP 0)) (reflP zT)))
def difW:Pf:=impP (eqF nxT zT) (absurdP (symW nxT (hypP 0)))
def caseWS(a b:Fm)(r:Pf):Pf:=impP (knownW nxT a b 2) (impEP r (impEP (andRP (hypP 0)) difW))
def casesW(a b c:Fm)(p q r:Pf):Pf:= .mk 11 0 (.mk 0 []) [] [] [p,impEP (indP (caseWF a b c) (vT 0) (caseWB a b (q.uph 1 2)) (caseWS a b (r.uph 2 3))) (hypP 0)]
def numbersW(f:Fm)(p q:Pf):Pf:= .mk 8 0 natT [] [] [.mk 16 0 (.mk 0 []) [vT 0] [f.lw 1 1] [p.uph 1 0,.mk 9 0 (.mk 0 []) [vT 0] [] [q.uph 2 1]]]
def listsW(f:Fm)(p q:Pf):Pf:= .mk 8 0 listT [] [] [.mk 17 0 (.mk 0 []) [vT 0] [f.lw 1 1] [p.uph 1 0,.mk 9 0 (.mk 0 []) [vT 0] [] [.mk 9 0 (.mk 0 []) [vT 1] [] [q.uph 3 1]]]]
def sameF(s t:Tm):Fm:=eqF s t
def decF(s t:Tm):Fm:=orA (sameF s t) (notF (sameF s t))
def elP(s t:Tm)(p:Pf):Pf:=lftW (sameF s t) (notF (sameF s t)) p (nothW (notF (sameF s t)).dp 262144 (notF (sameF s t)) 0).1
def erP(s t:Tm)(p:Pf):Pf:=rgtW (sameF s t) (notF (sameF s t)) (impP (sameF s t) p) (nothW (sameF s t).dp 262144 (sameF s t) 0).1
def allIP(s:Ty)(p:Pf):Pf:= .mk 8 0 s [] [] [p]
def allEP(t:Tm)(p:Pf):Pf:= .mk 9 0 (.mk 0 []) [t] [] [p]
def eq1P:Pf:=numbersW (decF zT (vT 0)) (elP zT zT (reflP zT)) (allIP natT (erP zT (sT (vT 0)) (absurdP (hypP 0))))
def sucT:Tm:=lmT natT (sT (vT 0))
def eqEP:Pf:=impP (sameF (vT 1) (vT 0)) (elP (sT (vT 1)) (sT (vT 0)) (congW sucT (vT 1) (hypP 0)))
def eqDP:Pf:=impP (notF (sameF (vT 1) (vT 0))) (erP (sT (vT 1)) (sT (vT 0)) (impEP (hypP 1) (injW (vT 1) (hypP 0))))
def eqBP:Pf:=casesW (sameF (vT 1) (vT 0)) (notF (sameF (vT 1) (vT 0))) (decF (sT (vT 1)) (sT (vT 0))) (allEP (vT 0) (hypP 0)) eqEP eqDP
def eq2P:Pf:=numbersW (decF (sT (vT 1)) (vT 0)) (erP (sT (vT 0)) zT (absurdP (symW (sT (vT 0)) (hypP 0)))) (allIP natT eqBP)
def eqP:Pf:=allIP natT (.mk 16 0 (.mk 0 []) [vT 0] [quF 4 natT (decF (vT 1) (vT 0))] [eq1P,eq2P])
def eqAll:Fm:=quF 4 natT (quF 4 natT (decF (vT 1) (vT 0)))
def Fm.fvl(f:Fm)(b:Int):List Int:=(f.tms b).flatMap fun p=>fre (p.1.vars p.2)
mutual
def Pf.fvl(b:Int):Pf→List Int
 | .mk k _ _ ts fs zs=>ts.flatMap (fun t=>fre (t.vars b))++fs.flatMap (fun f=>f.fvl (b+fvK k))++(Pf.fvls b (vaK k) zs).flatten
def Pf.fvls(b w:Int):List Pf→List (List Int)
 |[]=>[]
 |p::l=>Pf.fvl (if l.length=0 then b+w else b) p::Pf.fvls b w l
end
mutual
def Pf.hyl(y:Int):Pf→List Int
 | .mk k i _ _ _ zs=>(if k=1∧i≥y then [i-y] else [])++(Pf.hyls y (hyK k) zs).flatten
def Pf.hyls(y w:Int):List Pf→List (List Int)
 |[]=>[]
 |p::l=>Pf.hyl (if l.length=0 then y+w else y) p::Pf.hyls y w l
end
mutual
def Pf.lml:Pf→List Int
 | .mk k i _ _ _ zs=>(if k=2 then [i] else [])++(Pf.lmls zs).flatten
def Pf.lmls:List Pf→List (List Int)
 |[]=>[]
 |p::l=>Pf.lml p::Pf.lmls l
end
def Tm.ixr(t:Tm):Prop:=∀b,∀p∈t.vars b,0≤p.1∧p.1<9223372036854775808
def Fm.ixr(f:Fm):Prop:=∀b,∀p∈f.tms b,p.1.ixr
theorem Tm.ixr_of{t:Tm}(h:∀p∈t.vars 0,0≤p.1∧p.1<9223372036854775808):t.ixr:=fun b p hp=>by
 have e:=vars_shift t 0 b
 rw[Int.zero_add] at e
 rw[e] at hp
 obtain⟨q,hq,rfl⟩:=List.mem_map.1 hp
 exact h q hq
theorem Fm.ixr_args{f x:Fm}(h:f.ixr)(hx:x∈f.args):x.ixr:=fun b p hp=>by
 have key:∀(y:Fm) (b c:Int) (p:Tm×Int),p∈y.tms b→∃q∈y.tms c,q.1=p.1:=by
  intro y
  induction y using Fm.ind with
  |h y ih=>
   intro b c p hp
   rw[Fm.tms_eq] at hp ⊢
   rcases List.mem_append.1 hp with hp|hp
   ·obtain ⟨t,ht,rfl⟩:=List.mem_map.1 hp
    exact⟨(t,c),List.mem_append_left _ (List.mem_map.2 ⟨t,ht,rfl⟩),rfl⟩
   ·obtain ⟨z,hz,hp⟩:=List.mem_flatMap.1 hp
    obtain⟨q,hq,e⟩:=ih z hz _ (upF y.kind c) p hp
    exact⟨q,List.mem_append_right _ (List.mem_flatMap.2 ⟨z,hz,hq⟩),e⟩
 obtain⟨q,hq,e⟩:=key x b (upF f.kind 0) p hp
 rw[←e]
 exact h 0 q (by rw[Fm.tms_eq];exact List.mem_append_right _ (List.mem_flatMap.2 ⟨x,hx,hq⟩))
theorem Fm.ixr_terms{f:Fm}{t:Tm}(h:f.ixr)(ht:t∈f.terms):t.ixr:=
 h 0 (t,0) (by rw[Fm.tms_eq];exact List.mem_append_left _ (List.mem_map.2 ⟨t,ht,rfl⟩))
mutual
def Pf.ixr:Pf→Prop
 | .mk _ i _ ts fs zs=>(0≤i∧i<9223372036854775808)∧(∀t∈ts,t.ixr)∧(∀f∈fs,f.ixr)∧Pf.ixrs zs
def Pf.ixrs:List Pf→Prop
 |[]=>True
 |p::l=>Pf.ixr p∧Pf.ixrs l
end
def hypsI(p:Pf):List Int:=sortI (nub [] (p.hyl 0))
def lemsI(p:Pf):List Int:=sortI (nub [] p.lml)
def usesP(p:Pf):List Int:=sortI (nub [] (p.fvl 0))
def usesF(f:Fm):List Int:=sortI (nub [] (f.fvl 0))
mutual
def Pf.cn(most:Int):Pf→Int
 | .mk _ _ h ts fs zs=>Pf.cns most (Fm.cns most (Tm.cns most (1+h.cn (most-1)) ts) fs) zs
def Pf.cns(most n:Int):List Pf→Int
 |[]=>n
 |x::l=>if n≤most then Pf.cns most (n+x.cn (most-n)) l else n
end
theorem Pf.cn_eq(most:Int)(t:Pf):t.cn most=Pf.cns most (Fm.cns most (Tm.cns most (1+t.ty.cn (most-1)) t.terms) t.forms) t.args:=by cases t;simp only[Pf.cn];rfl
theorem Fm.cns_bd3(most:Int):∀(l:List Fm) (n:Int),n≤Fm.cns most n l∧(Fm.cns most n l≤n∨Fm.cns most n l≤most+2)∧(Fm.cns most n l≤most→Fm.cns most n l=n+(l.map Fm.full).sum)
 |[],n=>by simp only[Fm.cns];exact⟨by omega,.inl (by omega),fun _=>by simp⟩
 |x::l,n=>by
  simp only[Fm.cns]
  by_cases h:n≤most
  ·rw [if_pos h]
   obtain⟨a1,a2,a3⟩:=x.cn_bd (most-n)
   obtain⟨b1,b2,b3⟩:=Fm.cns_bd3 most l (n+x.cn (most-n))
   refine⟨by omega,by omega,fun hc=> ?_⟩
   rw[b3 hc,a3 (by omega),List.map_cons,List.sum_cons];omega
  ·rw [if_neg h];exact⟨by omega,.inl (by omega),fun hc=>absurd hc h⟩
theorem Pf.cn_bd(t:Pf):∀most:Int,1≤t.cn most∧(t.cn most≤2∨t.cn most≤most+2)∧(t.cn most≤most→t.cn most=t.full):=by
 induction t using Pf.ind with
 |h t ih=>
  intro most
  rw[Pf.cn_eq,Pf.full_eq]
  have key:∀(l:List Pf) (n:Int),(∀x∈l,x∈t.args)→n≤Pf.cns most n l∧(Pf.cns most n l≤n∨Pf.cns most n l≤most+2)∧(Pf.cns most n l≤most→Pf.cns most n l=n+(l.map Pf.full).sum):=by
   intro l
   induction l with
   |nil=>intro n _;simp only[Pf.cns];refine⟨by omega,.inl (by omega),fun _=>by simp⟩
   |cons x l ihl=>
    intro n hx
    simp only[Pf.cns]
    by_cases h:n≤most
    ·rw [if_pos h]
     obtain⟨a1,a2,a3⟩:=ih x (hx x (by simp)) (most-n)
     obtain⟨b1,b2,b3⟩:=ihl (n+x.cn (most-n)) fun y hy=>hx y (by simp[hy])
     refine⟨by omega,by omega,fun hc=> ?_⟩
     rw[b3 hc,a3 (by omega),List.map_cons,List.sum_cons];omega
    ·rw [if_neg h];exact⟨by omega,.inl (by omega),fun hc=>absurd hc h⟩
  obtain⟨c1,c2,c3⟩:=t.ty.cn_bd (most-1)
  obtain⟨d1,d2,d3⟩:=Tm.cns_bd most t.terms (1+t.ty.cn (most-1))
  obtain⟨e1,e2,e3⟩:=Fm.cns_bd3 most t.forms (Tm.cns most (1+t.ty.cn (most-1)) t.terms)
  obtain⟨a1,a2,a3⟩:=key t.args (Fm.cns most (Tm.cns most (1+t.ty.cn (most-1)) t.terms) t.forms) fun _ h=>h
  exact⟨by omega,by omega,fun h=>by rw[a3 h,e3 (by omega),d3 (by omega),c3 (by omega)];omega⟩
def Tm.ixb(t:Tm):Prop:=∀q∈t.vars 0,0≤q.1∧q.1<10000
def Fm.ixb(f:Fm):Prop:=∀q∈f.tms 0,∀r∈q.1.vars 0,0≤r.1∧r.1<10000
theorem okT_ix(f:Fm):∀(g:List Ty) (b:Int),f.shape=true→f.okT g→∀q∈f.tms b,∀r∈q.1.vars 0,0≤r.1∧r.1<g.length+f.size:=by
 induction f using Fm.ind with
 |h f ih=>
  intro g b hs h q hq r hr
  rw[f.tms_eq b,List.mem_append] at hq
  rw[Fm.okT_iff] at h
  have hsz:=f.size_eq
  rcases hq with hq|hq
  ·obtain ⟨t,ht,rfl⟩:=List.mem_map.1 hq
   have hst:=fshape_terms hs ht
   have h1:=lsum_mem Tm.size ht
   exact⟨t.vars_nonneg hst 0 r hr,vars_bound t g 0 (g.length+f.size) (by rw[h.1 t ht]) hst (by omega) r hr⟩
  ·obtain ⟨x,hx,hq⟩:=List.mem_flatMap.1 hq
   have h1:=lsum_mem Fm.size hx
   have hl:(ctxF g f).length≤g.length+1:=by unfold ctxF;split<;>simp
   have:=ih x hx _ _ (fshape_args hs hx) (h.2 x hx) q hq r hr
   omega
def TmI(t:Tm):Prop:=t.shape=true∧t.ixb∧t.full≤300000
def FmI(f:Fm):Prop:=f.shape=true∧f.ixb∧f.full≤300000
theorem TmI.of{g:List Ty}{t:Tm}{T:Ty}(he:t.err=0)(hi:t.inf g=(T,0))(hg:g.length≤20):TmI t:=by
 obtain⟨h1,h2⟩:=(Tm.err_iff t).1 he
 have h3:=terr_full he
 refine⟨h1,fun q hq=>⟨t.vars_nonneg h1 0 q hq,?_⟩,by omega⟩
 have:=vars_bound t g 0 (g.length+t.size) (by rw[hi]) h1 (by omega) q hq
 omega
theorem FmI.of{g:List Ty}{f:Fm}(he:f.err=0)(ho:f.okT g)(hg:g.length≤20):FmI f:=by
 obtain⟨h1,h2⟩:=(Fm.err_iff f).1 he
 have h3:=ferr_full he
 refine⟨h1,fun q hq r hr=> ?_,by omega⟩
 have:=okT_ix f g 0 h1 ho q hq r hr
 omega
mutual
def Pf.lx(C:Int):Pf→Prop
 | .mk k i _ _ _ zs=>(k=2→0≤i∧i<C)∧Pf.lxs C zs
def Pf.lxs(C:Int):List Pf→Prop
 |[]=>True
 |p::l=>Pf.lx C p∧Pf.lxs C l
end
theorem lxs_iff(C:Int):∀l:List Pf,Pf.lxs C l↔∀p∈l,p.lx C
 |[]=>by simp[Pf.lxs]
 |p::l=>by simp[Pf.lxs,lxs_iff C l]
theorem Pf.lx_iff(C:Int)(p:Pf):p.lx C↔(p.kind=2→0≤p.index∧p.index<C)∧∀x∈p.args,x.lx C:=by cases p;simp only[Pf.lx,lxs_iff];rfl
structure Made (n:Nat) (p:Pf):Prop where
 shape:p.shape=true
 full:p.full≤n
 ix:p.ix 10000
 hx:p.hx 10000
 lx:p.lx 10000
theorem Made.up{n m:Nat}{p:Pf}(h:Made n p)(hm:n≤m):Made m p:=⟨h.shape,Nat.le_trans h.full hm,h.ix,h.hx,h.lx⟩
theorem Made.mk'{k i:Int}{s:Ty}{ts:List Tm}{fs:List Fm}{zs:List Pf}{nd:Nd}{n:Nat}(hn:ndP k=some nd)(h1:ts.length=nd.terms)(h2:fs.length=nd.forms)(h3:zs.length=nd.args)
 (hi:0≤i∧i<10000) (hi2:nd.index=true∨i=0) (hs:if nd.typ=true then s.ok=true else s.isNo=true) (hk:k=1→zs=[])
 (ht:∀t∈ts,TmI t) (hf:∀f∈fs,FmI f) (hz:∀x∈zs,∃m,Made m x) (hfull:(Pf.mk k i s ts fs zs).full≤n):Made n (Pf.mk k i s ts fs zs):=by
 refine⟨?_,hfull,(Pf.ix_iff _ _).2 ⟨fun t h=>(ht t h).2.1,fun f h=>(hf f h).2.1,fun x h=> ?_⟩,(Pf.hx_iff _ _).2 ⟨fun _=>hi,fun _ x h=> ?_⟩,(Pf.lx_iff _ _).2 ⟨fun _=>hi,fun x h=> ?_⟩⟩
 ·rw [Pf.shape_eq]
  simp only[Bool.and_eq_true,List.all_eq_true]
  refine⟨⟨⟨?_,fun t h=>(ht t h).1⟩,fun f h=>(hf f h).1⟩,fun x h=> ?_⟩
  ·unfold Pf.head
   simp only[Pf.kind_mk,Pf.terms_mk,Pf.forms_mk,Pf.args_mk,Pf.index_mk,Pf.ty_mk,hn,h1,h2,h3,beq_self_eq_true,Bool.true_and,hi.1,decide_true]
   rw[Bool.and_eq_true]
   constructor
   ·rcases hi2 with h|h
    ·rw [h];rfl
    ·rw [h];simp
   ·by_cases hty:nd.typ=true
    ·rw [if_pos hty] at hs ⊢;exact hs
    ·rw [if_neg hty] at hs ⊢;exact hs
  ·obtain ⟨m,hm⟩:=hz x h
   exact hm.shape
 ·obtain ⟨m,hm⟩:=hz x h
  exact hm.ix
 ·obtain ⟨m,hm⟩:=hz x h
  exact hm.hx
 ·obtain ⟨m,hm⟩:=hz x h
  exact hm.lx
theorem ok_of_err{s:Ty}(h:s.err=0):s.ok=true:=ok_of ((Ty.err_iff s).1 h).1 ((Ty.err_iff s).1 h).2
theorem one_in{α:Type}{P:α→Prop}{a:α}(h:P a):∀x∈[a],P x:=fun x hx=>by simp only[List.mem_singleton] at hx;subst hx;exact h
theorem two_in{α:Type}{P:α→Prop}{a b:α}(h:P a)(h':P b):∀x∈[a,b],P x:=fun x hx=>by
 simp only[List.mem_cons,List.not_mem_nil,or_false] at hx
 rcases hx with rfl|rfl
 ·exact h
 ·exact h'
theorem nil_in{α:Type}{P:α→Prop}:∀x∈([]:List α),P x:=fun x hx=>by cases hx
theorem Made.one{k:Int}(hk:k=4∨k=5∨k=20){n:Nat}{p:Pf}(hp:Made n p):Made (n+2) (.mk k 0 (.mk 0 []) [] [] [p]):=by
 have h:=hp.full
 refine .mk' (nd:=⟨0,0,1,false,false⟩) ?_ rfl rfl rfl (by omega) (.inr rfl) rfl (fun h=>by omega) nil_in nil_in (one_in ⟨_,hp⟩) (by rw[pf_full1,no_size];simp;omega)
 rcases hk with rfl|rfl|rfl<;>rfl
theorem Made.imp{f:Fm}(hf:FmI f){n:Nat}{p:Pf}(hp:Made n p):Made (n+300002) (.mk 6 0 (.mk 0 []) [] [f] [p]):=by
 have h:=hp.full
 have h':=hf.2.2
 exact .mk' (nd:=⟨0,1,1,false,false⟩) rfl rfl rfl rfl (by omega) (.inr rfl) rfl (fun h=>by omega) nil_in (one_in hf) (one_in ⟨_,hp⟩) (by rw[pf_full1,no_size];simp;omega)
theorem Made.all{k:Int}(hk:k=8∨k=12){s:Ty}(hs:s.err=0){n:Nat}{p:Pf}(hp:Made n p):Made (n+65) (.mk k 0 s [] [] [p]):=by
 have h:=hp.full
 have h':=ty_size hs
 refine .mk' (nd:=⟨0,0,1,false,true⟩) ?_ rfl rfl rfl (by omega) (.inr rfl) (ok_of_err hs) (fun h=>by omega) nil_in nil_in (one_in ⟨_,hp⟩) (by rw[pf_full1];simp;omega)
 rcases hk with rfl|rfl<;>rfl
theorem Made.at_{k:Int}(hk:k=9∨k=13){t:Tm}(ht:TmI t){n:Nat}{p:Pf}(hp:Made n p):Made (n+300002) (.mk k 0 (.mk 0 []) [t] [] [p]):=by
 have h:=hp.full
 have h':=ht.2.2
 refine .mk' (nd:=⟨1,0,1,false,false⟩) ?_ rfl rfl rfl (by omega) (.inr rfl) rfl (fun h=>by omega) (one_in ht) nil_in (one_in ⟨_,hp⟩) (by rw[pf_full1,no_size];simp;omega)
 rcases hk with rfl|rfl<;>rfl
theorem Made.sub{f:Fm}(hf:FmI f){n m:Nat}{p q:Pf}(hp:Made n p)(hq:Made m q):Made (n+m+300002) (.mk 19 0 (.mk 0 []) [] [f] [p,q]):=by
 have h:=hp.full
 have h1:=hq.full
 have h2:=hf.2.2
 exact .mk' (nd:=⟨0,1,2,false,false⟩) rfl rfl rfl rfl (by omega) (.inr rfl) rfl (fun h=>by omega) nil_in (one_in hf) (two_in ⟨_,hp⟩ ⟨_,hq⟩) (by rw[pf_full1,no_size];simp;omega)
end Go.Ab
namespace Go.Ab
set_option linter.all false
def csum(l:List Tm):Int:=(l.map fun x=>x.cn 20000).sum
def gsum(l:List Ty):Int:=(l.map fun x=>x.cn 20000).sum
theorem RK.walk_all{c:EC}(KD:RK c)(G:c.sem→Prop)(hset:∀x zs,G x→(∀a∈zs,G a)→G (KD.set x zs))(harg:∀x,G x→∀a∈KD.args x,G a):∀(n:Nat) (d:Dk) (F:c.sem→c.sem) (s:c.sem),(∀x,G x→G (F x))→G s→
 (∀x,G x→G ((KD.walk n d F s).1 x))∧G (KD.walk n d F s).2.1
 |0,d,F,s,hF,hs=>⟨hF,hs⟩
 |n+1,d,F,s,hF,hs=>by
  unfold RK.walk
  split
  ·exact ⟨hF,hs⟩
  ·split
   ·split
    ·rename_i hk
     refine KD.walk_all G hset harg n _ _ _ (fun x hx=>hF _ (hset _ _ hs fun a ha=> ?_)) (harg _ hs _ (List.getElem_mem hk))
     rcases List.mem_append.1 ha with h|h
     ·exact harg _ hs a (List.mem_of_mem_take h)
     ·rcases List.mem_cons.1 h with rfl|h
      ·exact hx
      ·exact harg _ hs a (List.mem_of_mem_drop h)
    ·exact ⟨hF,hs⟩
   ·exact ⟨hF,hs⟩
theorem Fm.ixr_iff(f:Fm):f.ixr↔(∀t∈f.terms,t.ixr)∧∀a∈f.args,a.ixr:=by
 refine⟨fun h=>⟨fun t ht=>Fm.ixr_terms h ht,fun a ha=>Fm.ixr_args h ha⟩,?_⟩
 rintro⟨h1,h2⟩ b p hp
 rw[f.tms_eq b] at hp
 rcases List.mem_append.1 hp with hp|hp
 ·obtain ⟨t,ht,rfl⟩:=List.mem_map.1 hp
  exact h1 t ht
 ·obtain ⟨a,ha,hp⟩:=List.mem_flatMap.1 hp
  exact h2 a ha _ p hp
theorem vT_ixr{q:Int}(h:0≤q∧q<9223372036854775808):(vT q).ixr:=Tm.ixr_of fun p hp=>by
 simp[vT,Tm.vars,Tm.varss] at hp
 subst hp;exact h
theorem okT_ixr{f:Fm}{g:List Ty}(h:f.okT g)(hs:f.shape=true)(hb:g.length+f.size<1000000):f.ixr:=fun b p hp=>Tm.ixr_of fun q hq=>by
 have:=okT_ix f g b hs h p hp q hq
 omega
theorem fmK_ixr_set(x:Fm)(zs:List Fm)(hx:x.ixr)(ha:∀a∈zs,a.ixr):(Fm.mk x.kind x.ty x.terms zs).ixr:=(Fm.ixr_iff _).2 ⟨((Fm.ixr_iff x).1 hx).1,ha⟩
end Go.Ab
