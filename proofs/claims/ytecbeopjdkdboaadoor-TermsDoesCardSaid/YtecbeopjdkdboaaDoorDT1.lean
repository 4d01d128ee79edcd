/- A part of the proofs of this seat's statements: D33, D34, D35, D36, D37, D38, D39, D42, D43, D49, D106. It has no conditions of its own. -/
import Derived.Test.YtecbeopjdkdboaaDoorD1
import Derived.Test.YtecbeopjdkdboaaDoorAT1
namespace Go.Ab
open Go
set_option linter.all false
def nub(acc l:List Int):List Int:=l.foldl (fun ks k=>putKs k ks) acc
def fre(l:List (Int×Int)):List Int:=l.filterMap fun p=>if p.2≤p.1 then some (p.1-p.2) else none
def useK(t:Tm):List Int:=nub [] (fre (t.vars 0))
def usesI(t:Tm):List Int:=sortI (useK t)
def shI(fr by_ v:Int):Int:=if v≥fr then v+by_ else v
def lowerErr(t:Tm)(a:Int):Int:=if t.err≠0 then t.err else if ¬(0≤a∧a≤4096) then 1 else if 0<cnt a (t.vars 0) then 6 else 0
def prevs(l:List Int):List Int:=(l.filter fun v=>decide (v≠0)).map (·-1)
def wantI(a b:List Int):List Int:=nub (nub [] (prevs a)) (if 0∈a then b else [])
def hasM(a:List Int)(m:Nat):Bool:=decide (0∈a.take m)
def wM(a:List Int)(m:Nat):List Int:=nub [] (prevs (a.take m))
def wN(a b:List Int)(h:Bool)(m:Nat):List Int:=nub (wM a a.length) (if h=true then b.take m else [])
def useKF(f:Fm):List Int:=nub [] (fre (varsL (f.tms 0)))
def usesFI(f:Fm):List Int:=sortI (useKF f)
def Fm.lft(f:Fm)(fr by_:Int):Fm:=f.re (fun b t=>t.re (liftG (fr+b) by_) 0) 0
def liftFErr(f:Fm)(fr by_:Int):Int:=if f.err≠0 then f.err else if ¬(0≤fr∧fr≤4096)∨¬(0≤by_∧by_≤4096)∨f.near=false then 1 else 0
def lowerFErr(f:Fm)(a:Int):Int:=if f.err≠0 then f.err else if ¬(0≤a∧a≤4096) then 1 else if 0<cntF a (f.tms 0) then 6 else 0
def falseF:Fm:=eqF (.mk 4 0 (.mk 0 []) []) (.mk 5 0 (.mk 0 []) [.mk 4 0 (.mk 0 []) []])
def notF(f:Fm):Fm:= .mk 3 (.mk 0 []) [] [f,falseF]
def zeroF:Fm:=eqF (.mk 1 0 (.mk 0 []) []) (.mk 4 0 (.mk 0 []) [])
def orF(a b:Fm):Fm:= .mk 5 natT [] [.mk 2 (.mk 0 []) [] [.mk 3 (.mk 0 []) [] [zeroF,a],.mk 3 (.mk 0 []) [] [.mk 3 (.mk 0 []) [] [zeroF,falseF],b]]]
def exF:Fm:= .mk 4 natT [] [.mk 1 (.mk 0 []) [vT 0,vT 1] []]
def insS(l:List Int)(n:Int)(i:Nat):List Int:=l.take i++(l.getD i n::l.drop i)
def insE(l:List Int)(n:Int)(i:Nat):List Int:=l.take i++n::l.drop i
structure Ck where
 lems:List Fm
 tys:List Ty
 hyps:List Fm
def Ck.view(c:Ck):List V:=[.s .fm c.lems,.s .ty c.tys,.s .fm c.hyps]
def Ck.below(c:Ck)(l:List Ty):Ck:=⟨c.lems,c.tys++l,c.hyps.map fun f=>f.lft 0 l.length⟩
def Ck.with_(c:Ck)(f:Fm):Ck:=⟨c.lems,c.tys,c.hyps++[f]⟩
def Ck.room(c:Ck)(v h:Nat):Int:=if c.tys.length+v>16∨c.hyps.length+h>16 then 3 else 0
def unionI(a b:List Int):List Int:=sortI (nub (nub [] a) b)
def outI(l:List Int)(n:Int):List Int:=(l.filter fun x=>decide (x≥n)).map (·-n)
def hasI:List Int→Bool
 |[]=>false
 |x::_=>x==0
def freeT(t:Tm):List Int:=if t.err=0 then usesI t else []
def putK(f:Fm)(t:Tm):Fm×Int:=(if putFErr f 0 t=0 then f.put 0 t else noFm,putFErr f 0 t)
def kTyp(c:Ck)(t:Tm)(k:Int):Int:=if(typeOf c.tys t).2≠0 then(typeOf c.tys t).2 else if(typeOf c.tys t).1.kind≠k then 7 else 0
def nrmTs:List Tm→List Tm×Int
 |[]=>([],0)
 |t::l=>if(normR t 1000).2.2≠0 then([],(normR t 1000).2.2) else if(nrmTs l).2≠0 then([],(nrmTs l).2) else((normR t 1000).1::(nrmTs l).1,0)
mutual
def normF:Fm→Fm×Int
 | .mk k h ts zs=>if(nrmTs ts).2≠0 then(noFm,(nrmTs ts).2) else if(normFs zs).2≠0 then(noFm,(normFs zs).2) else(.mk k h (nrmTs ts).1 (normFs zs).1,0)
def normFs:List Fm→List Fm×Int
 |[]=>([],0)
 |f::l=>if(normF f).2≠0 then([],(normF f).2) else if(normFs l).2≠0 then([],(normFs l).2) else((normF f).1::(normFs l).1,0)
end
mutual
def contF:Fm→Bool
 | .mk k _ _ zs=>if k=1 then false else if k=2 then(contFs zs).getD 0 false||(contFs zs).getD 1 false else if k=5 then true else(contFs zs).getLastD false
def contFs:List Fm→List Bool
 |[]=>[]
 |f::l=>contF f::contFs l
end
abbrev Res:=Fm×List Int×Int
abbrev Rs:=Ck→Res
def noRes(e:Int):Res:=(noFm,[],e)
def partR(r:Rs)(c:Ck)(f:Fm)(t:Tm):List Int×Int:=
 if(r c).2.2≠0 then([],(r c).2.2) else if(putK f t).2≠0 then([],(putK f t).2) else((r c).2.1,mtchF (putK f t).1 (r c).1)
def finR(r:Res):Res:=if r.2.2≠0 then noRes r.2.2 else if r.1.err≠0 then noRes 4 else(r.1,if contF r.1=true then r.2.1 else [],0)
def hypR(c:Ck)(i:Int):Res:=if i≥c.hyps.length then noRes 8 else(c.hyps.getD (c.hyps.length-1-i.toNat) noFm,[],0)
def lemR(c:Ck)(i:Int):Res:=if i≥c.lems.length then noRes 9 else(c.lems.getD i.toNat noFm,[],0)
def andR(r0 r1:Rs)(c:Ck):Res:=if(r0 c).2.2≠0 then noRes (r0 c).2.2 else(twoF 2 (r0 c).1 (r1 c).1,unionI (r0 c).2.1 (r1 c).2.1,(r1 c).2.2)
def prjR(j:Nat)(r0:Rs)(c:Ck):Res:=if(r0 c).2.2≠0 then noRes (r0 c).2.2 else if(r0 c).1.kind≠2 then noRes 10 else((r0 c).1.args.getD j noFm,(r0 c).2.1,0)
def impiR(f:Fm)(r0:Rs)(c:Ck):Res:=
 if typedFC c.tys f≠0 then noRes (typedFC c.tys f) else if c.room 0 1≠0 then noRes 3 else(twoF 3 f (r0 (c.with_ f)).1,(r0 (c.with_ f)).2.1,(r0 (c.with_ f)).2.2)
def impeR(r0 r1:Rs)(c:Ck):Res:=
 if(r0 c).2.2≠0 then noRes (r0 c).2.2 else if(r0 c).1.kind≠3 then noRes 10 else if(r1 c).2.2≠0 then noRes (r1 c).2.2
 else((r0 c).1.args.getD 1 noFm,unionI (r0 c).2.1 (r1 c).2.1,mtchF ((r0 c).1.args.getD 0 noFm) (r1 c).1)
def allR(k:Int)(s:Ty)(r0:Rs)(c:Ck):Res:=
 if c.room 1 0≠0 then noRes 3 else if(r0 (c.below [s])).2.2≠0 then noRes (r0 (c.below [s])).2.2
 else if k=8 then(quF 4 s (r0 (c.below [s])).1,outI (r0 (c.below [s])).2.1 1,0)
 else if hasI (r0 (c.below [s])).2.1=true then noRes 12 else(quF 6 s (r0 (c.below [s])).1,outI (r0 (c.below [s])).2.1 1,0)
def kI(k u a b:Int):Int:=if k=u then a else b
def kL(k u:Int)(a b:List Int):List Int:=if k=u then a else b
def atR(k:Int)(t:Tm)(r0:Rs)(c:Ck):Res:=
 if(typeOf c.tys t).2≠0 then noRes (typeOf c.tys t).2 else if(r0 c).2.2≠0 then noRes (r0 c).2.2
 else if(r0 c).1.kind≠kI k 13 6 4 then noRes 10 else if(r0 c).1.ty≠(typeOf c.tys t).1 then noRes 7
 else((putK ((r0 c).1.args.getD 0 noFm) t).1,kL k 13 (r0 c).2.1 (unionI (r0 c).2.1 (freeT t)),(putK ((r0 c).1.args.getD 0 noFm) t).2)
def exR(k:Int)(f:Fm)(t:Tm)(r0:Rs)(c:Ck):Res:=
 if typedFC c.tys f≠0 then noRes (typedFC c.tys f) else if f.kind≠kI k 14 7 5 then noRes 10
 else if(typeOf c.tys t).2≠0 then noRes (typeOf c.tys t).2 else if f.ty≠(typeOf c.tys t).1 then noRes 7
 else(f,kL k 14 (partR r0 c (f.args.getD 0 noFm) t).1 (unionI (partR r0 c (f.args.getD 0 noFm) t).1 (freeT t)),(partR r0 c (f.args.getD 0 noFm) t).2)
def freeR(f:Fm):Fm×Int:=
 if timesF 0 f=0 then(f,0) else if(normF f).2≠0 then(noFm,(normF f).2) else if timesF 0 (normF f).1≠0 then(noFm,6) else((normF f).1,0)
def openB(r1:Rs)(c:Ck)(a:Fm):Res:=r1 ((c.below [a.ty]).with_ (a.args.getD 0 noFm))
def opnR(k:Int)(r0 r1:Rs)(c:Ck):Res:=
 if(r0 c).2.2≠0 then noRes (r0 c).2.2 else if(r0 c).1.kind≠kI k 15 7 5 then noRes 10 else if c.room 1 1≠0 then noRes 3
 else if(openB r1 c (r0 c).1).2.2≠0 then noRes (openB r1 c (r0 c).1).2.2
 else if(freeR (openB r1 c (r0 c).1).1).2≠0 then noRes (freeR (openB r1 c (r0 c).1).1).2
 else if k=15∧hasI (openB r1 c (r0 c).1).2.1=true then noRes 12
 else((freeR (openB r1 c (r0 c).1).1).1.lft 1 (-1),unionI (r0 c).2.1 (outI (openB r1 c (r0 c).1).2.1 1),0)
def indR(f:Fm)(t:Tm)(r0 r1:Rs)(c:Ck):Res:=
 if typedF (c.tys++[natT]) f≠0 then noRes (typedF (c.tys++[natT]) f) else if kTyp c t 1≠0 then noRes (kTyp c t 1)
 else if(partR r0 c f zT).2≠0 then noRes (partR r0 c f zT).2 else if c.room 1 1≠0 then noRes 3
 else if(partR r1 ((c.below [natT]).with_ f) (f.lft 1 1) (sT (vT 0))).2≠0 then noRes (partR r1 ((c.below [natT]).with_ f) (f.lft 1 1) (sT (vT 0))).2
 else((putK f t).1,unionI (unionI (freeT t) (partR r0 c f zT).1) (outI (partR r1 ((c.below [natT]).with_ f) (f.lft 1 1) (sT (vT 0))).1 1),(putK f t).2)
def nilM:Tm:= .mk 7 0 (.mk 0 []) []
def consM:Tm:= .mk 8 0 (.mk 0 []) [vT 1,vT 0]
def listR(f:Fm)(t:Tm)(r0 r1:Rs)(c:Ck):Res:=
 if typedF (c.tys++[listT]) f≠0 then noRes (typedF (c.tys++[listT]) f) else if kTyp c t 2≠0 then noRes (kTyp c t 2)
 else if(partR r0 c f nilM).2≠0 then noRes (partR r0 c f nilM).2 else if c.room 2 1≠0 then noRes 3
 else if(partR r1 ((c.below [natT,listT]).with_ (f.lft 1 1)) (f.lft 1 2) consM).2≠0 then noRes (partR r1 ((c.below [natT,listT]).with_ (f.lft 1 1)) (f.lft 1 2) consM).2
 else((putK f t).1,unionI (unionI (freeT t) (partR r0 c f nilM).1) (outI (partR r1 ((c.below [natT,listT]).with_ (f.lft 1 1)) (f.lft 1 2) consM).1 2),(putK f t).2)
def reflR(t:Tm)(c:Ck):Res:=(eqF t t,[],kTyp c t 1)
def substR(f:Fm)(r0 r1:Rs)(c:Ck):Res:=
 if typedF (c.tys++[natT]) f≠0 then noRes (typedF (c.tys++[natT]) f) else if(r0 c).2.2≠0 then noRes (r0 c).2.2 else if(r0 c).1.kind≠1 then noRes 10
 else if(partR r1 c f ((r0 c).1.terms.getD 0 noTm)).2≠0 then noRes (partR r1 c f ((r0 c).1.terms.getD 0 noTm)).2
 else((putK f ((r0 c).1.terms.getD 1 noTm)).1,(partR r1 c f ((r0 c).1.terms.getD 0 noTm)).1,(putK f ((r0 c).1.terms.getD 1 noTm)).2)
def appV:Tm:=apT (vT 1) (vT 0)
def chB(a:Fm):Fm×Int:=putK (((a.args.getD 0 noFm).args.getD 0 noFm).lft 2 1) appV
def chF(a:Fm):Ty:=funT a.ty (a.args.getD 0 noFm).ty
def choiceR(r0:Rs)(c:Ck):Res:=
 if(r0 c).2.2≠0 then noRes (r0 c).2.2 else if(r0 c).1.kind≠4∨((r0 c).1.args.getD 0 noFm).kind≠5 then noRes 10 else if(chF (r0 c).1).err≠0 then noRes 4
 else(quF 5 (chF (r0 c).1) (quF 4 (r0 c).1.ty (chB (r0 c).1).1),(r0 c).2.1,(chB (r0 c).1).2)
def ruleR(k i:Int)(s:Ty)(ts:List Tm)(fs:List Fm)(rs:List Rs)(c:Ck):Res:=
 if k=1 then hypR c i else if k=2 then lemR c i else if k=3 then andR (rs.getD 0 fun _=>noRes 0) (rs.getD 1 fun _=>noRes 0) c
 else if k=4∨k=5 then prjR (k-4).toNat (rs.getD 0 fun _=>noRes 0) c
 else if k=6 then impiR (fs.getD 0 noFm) (rs.getD 0 fun _=>noRes 0) c
 else if k=7 then impeR (rs.getD 0 fun _=>noRes 0) (rs.getD 1 fun _=>noRes 0) c
 else if k=8∨k=12 then allR k s (rs.getD 0 fun _=>noRes 0) c
 else if k=9∨k=13 then atR k (ts.getD 0 noTm) (rs.getD 0 fun _=>noRes 0) c
 else if k=10∨k=14 then exR k (fs.getD 0 noFm) (ts.getD 0 noTm) (rs.getD 0 fun _=>noRes 0) c
 else if k=11∨k=15 then opnR k (rs.getD 0 fun _=>noRes 0) (rs.getD 1 fun _=>noRes 0) c
 else if k=16 then indR (fs.getD 0 noFm) (ts.getD 0 noTm) (rs.getD 0 fun _=>noRes 0) (rs.getD 1 fun _=>noRes 0) c
 else if k=17 then listR (fs.getD 0 noFm) (ts.getD 0 noTm) (rs.getD 0 fun _=>noRes 0) (rs.getD 1 fun _=>noRes 0) c
 else if k=18 then reflR (ts.getD 0 noTm) c
 else if k=19 then substR (fs.getD 0 noFm) (rs.getD 0 fun _=>noRes 0) (rs.getD 1 fun _=>noRes 0) c
 else choiceR (rs.getD 0 fun _=>noRes 0) c
mutual
def infP:Pf→Rs
 | .mk k i s ts fs zs=>fun c=>finR (ruleR k i s ts fs (infPs zs) c)
def infPs:List Pf→List Rs
 |[]=>[]
 |p::l=>infP p::infPs l
end
theorem nat_of{t:Ty}(he:t.err=0)(hk:t.kind=1):t=natT:=by
 have h:=((Ty.err_iff t).1 he).1
 obtain⟨k,zs⟩:=t
 rw[Ty.shape_eq,Bool.and_eq_true] at h
 have h1:=h.1
 simp only[Ty.kind,Ty.args] at hk h1
 subst hk
 have h2:zs.length=0:=by simpa [arT] using h1
 rw[List.eq_nil_of_length_eq_zero h2];rfl
theorem list_of{t:Ty}(he:t.err=0)(hk:t.kind=2):t=listT:=by
 have h:=((Ty.err_iff t).1 he).1
 obtain⟨k,zs⟩:=t
 rw[Ty.shape_eq,Bool.and_eq_true] at h
 have h1:=h.1
 simp only[Ty.kind,Ty.args] at hk h1
 subst hk
 have h2:zs.length=0:=by simpa [arT] using h1
 rw[List.eq_nil_of_length_eq_zero h2];rfl
theorem typed_inv{g:List Ty}{t:Tm}(hg:∀x∈g,x.err=0)(h:(typed g t).2=0):t.err=0∧t.inf g=((typed g t).1,0)∧(typed g t).1.err=0:=by
 unfold typed at h ⊢
 by_cases h1:t.err≠0
 ·rw [if_pos h1] at h;exact absurd h h1
 ·rw [if_neg h1] at h ⊢
  have h1':=Decidable.not_not.1 h1
  exact⟨h1',by rw[←h],Tm.inf_good t g ((Tm.err_iff t).1 h1').1 hg h⟩
theorem typeOf_inv{g:List Ty}{t:Tm}(h:(typeOf g t).2=0):ctxErr g=0∧t.err=0∧t.inf g=((typeOf g t).1,0)∧(typeOf g t).1.err=0:=by
 unfold typeOf at h ⊢
 by_cases h1:ctxErr g≠0
 ·rw [if_pos h1] at h;exact absurd h h1
 ·rw [if_neg h1] at h ⊢
  have h1':=Decidable.not_not.1 h1
  exact⟨h1',typed_inv (ctxErr_all h1').2 h⟩
def UsesOk(n:Nat)(l:List Int):Prop:=l.Nodup∧∀u∈l,0≤u∧u<n
theorem UsesOk.nil(n:Nat):UsesOk n []:=⟨List.nodup_nil,fun u h=>by cases h⟩
theorem UsesOk.len{n:Nat}{l:List Int}(h:UsesOk n l):l.length≤n:=(nodup_len n l h.1 h.2).1
theorem mem_outI{l:List Int}{n x:Int}:x∈outI l n↔0≤x∧x+n∈l:=by
 simp only[outI,List.mem_map,List.mem_filter,decide_eq_true_eq]
 constructor
 ·rintro ⟨y,⟨h1,h2⟩,rfl⟩
  exact⟨by omega,by rw[Int.sub_add_cancel];exact h1⟩
 ·rintro ⟨h1,h2⟩
  exact⟨x+n,⟨h2,by omega⟩,by omega⟩
theorem UsesOk.out{n m:Nat}{l:List Int}(h:UsesOk (n+m) l):UsesOk n (outI l m):=by
 refine⟨?_,fun u hu=> ?_⟩
 ·have h1:(l.filter fun x=>decide (x≥(m:Int))).Nodup:=h.1.filter _
  unfold outI
  rw[List.nodup_iff_pairwise_ne,List.pairwise_map]
  exact(List.nodup_iff_pairwise_ne.1 h1).imp fun hne e=>hne (by omega)
 ·obtain ⟨h1,h2⟩:=mem_outI.1 hu
  have:=h.2 _ h2
  exact⟨h1,by omega⟩
end Go.Ab
namespace Go.Ab
set_option linter.all false
def csum(l:List Tm):Int:=(l.map fun x=>x.cn 20000).sum
def gsum(l:List Ty):Int:=(l.map fun x=>x.cn 20000).sum
theorem csum_take(l:List Tm)(m:Nat)(hm:m<l.length):csum (l.take (m+1))=csum (l.take m)+l[m].cn 20000:=by
 rw[←List.take_append_getElem hm,csum,List.map_append,List.sum_append];simp[csum]
theorem gsum_take(l:List Ty)(m:Nat)(hm:m<l.length):gsum (l.take (m+1))=gsum (l.take m)+l[m].cn 20000:=by
 rw[←List.take_append_getElem hm,gsum,List.map_append,List.sum_append];simp[gsum]
theorem csum_bd:∀l:List Tm,(l.length:Int)≤csum l∧csum l≤20002*l.length
 |[]=>by simp[csum]
 |t::l=>by
  have h:=csum_bd l
  have h1:=t.cn_bd 20000
  simp only[csum,List.map_cons,List.sum_cons,List.length_cons] at h ⊢
  omega
theorem gsum_bd:∀l:List Ty,(l.length:Int)≤gsum l∧gsum l≤20001*l.length
 |[]=>by simp[gsum]
 |t::l=>by
  have h:=gsum_bd l
  have h1:=t.cn_bd 20000
  simp only[gsum,List.map_cons,List.sum_cons,List.length_cons] at h ⊢
  omega
theorem csum_full:∀l:List Tm,csum l≤20000→((l.map Tm.full).sum:Int)=csum l
 |[],_=>by simp[csum]
 |t::l,h=>by
  have hb:=csum_bd l
  have h1:=t.cn_bd 20000
  have e:csum (t::l)=t.cn 20000+csum l:=by simp[csum]
  rw[e] at h ⊢
  have ih:=csum_full l (by omega)
  have h2:=h1.2.2 (by omega)
  simp only[List.map_cons,List.sum_cons]
  omega
theorem gsum_size:∀l:List Ty,gsum l≤20000→((l.map Ty.size).sum:Int)=gsum l
 |[],_=>by simp[gsum]
 |t::l,h=>by
  have hb:=gsum_bd l
  have h1:=t.cn_bd 20000
  have e:gsum (t::l)=t.cn 20000+gsum l:=by simp[gsum]
  rw[e] at h ⊢
  have ih:=gsum_size l (by omega)
  have h2:=h1.2.2 (by omega)
  simp only[List.map_cons,List.sum_cons]
  omega
theorem typeOf_small(g:List Ty)(z:Tm):(typeOf g z).1.size≤64:=by
 by_cases h:(typeOf g z).2=0
 ·exact ((Ty.err_iff _).1 (typeOf_inv h).2.2.2).2
 ·have:(typeOf g z).1=noTy:=by
   unfold typeOf typed at h ⊢
   split
   ·rfl
   ·rename_i h1
    rw[if_neg h1] at h
    split
    ·rfl
    ·rename_i h2
     rw[if_neg h2] at h
     exact inf_no z g h
  rw[this];decide
end Go.Ab
