/- A part of the proofs of this seat's statements: D1, D2, D3, D4, D5, D6, D7, D8, D9, D10, D11, D12, D13, D14, D17, D19, D16, D20, D22, D23, D24, D25, D26, D27, D28, D29, D30, D31, D32, D44, D45, D46, D111, D112, D47, D113, D105, D107, D114, D115, D116. It has no conditions of its own. -/
import Derived.Test.YtfpadcmkjaopcaaGreatDoorA2
namespace Go.Ab
open Go
set_option linter.all false
@[simp] theorem constV_int(E:Env)(T:Nat)(k:IntKind)(n:Int):constV E T (.int k n)= .int k n:=rfl
@[simp] theorem constV_bool(E:Env)(T:Nat)(b:Bool):constV E T (.bool b)= .bool b:=rfl
@[simp] theorem constV_str(E:Env)(T:Nat)(s:ByteArray):constV E T (.string s)= .str s:=rfl
theorem lsum_take{α:Type}(f:α→Nat)(l:List α):∀m (h:m<l.length),((l.take (m+1)).map f).sum=((l.take m).map f).sum+f l[m]:=by
 induction l with
 |nil=>intro m h;simp at h
 |cons t l ih=>
  intro m h
  cases m with
  |zero=>simp
  |succ m=>simp only[List.length_cons] at h;simp only[List.take_succ_cons,List.map_cons,List.sum_cons,List.getElem_cons_succ,ih m (by omega)];omega
theorem lsum_mem{α:Type}(f:α→Nat){l:List α}{t:α}(h:t∈l):f t≤(l.map f).sum:=by
 induction l with
 |nil=>cases h
 |cons x l ih=>rcases List.mem_cons.1 h with rfl|h;· simp
               ·have:=ih h;simp only[List.map_cons,List.sum_cons];omega
theorem lsum_take_le{α:Type}(f:α→Nat)(l:List α)(m:Nat):((l.take m).map f).sum≤(l.map f).sum:=by
 induction l generalizing m with
 |nil=>simp
 |cons t l ih=>cases m with
  |zero=>simp
  |succ m=>have:=ih m;simp only[List.take_succ_cons,List.map_cons,List.sum_cons];omega
theorem lsum_len{α:Type}(f:α→Nat)(hf:∀x,1≤f x):∀l:List α,l.length≤(l.map f).sum
 |[]=>Nat.le_refl _
 |x::l=>by have:=lsum_len f hf l;have:=hf x;simp only[List.length_cons,List.map_cons,List.sum_cons];omega
theorem all_of{α:Type}(p:α→Bool)(l:List α)(h:∀j (hj:j<l.length),p l[j]=true):l.all p=true:=by
 rw[List.all_eq_true]
 intro x hx
 obtain⟨j,hj,rfl⟩:=List.mem_iff_getElem.1 hx
 exact h j hj
theorem all_not{α:Type}(p:α→Bool){l:List α}{j:Nat}(hj:j<l.length)(h:p l[j]=false):l.all p=false:=by
 cases hb:l.all p with
 |false=>rfl
 |true=>rw[List.all_eq_true.1 hb _ (List.getElem_mem hj)] at h;cases h
theorem all_step{α:Type}{p:α→Prop}{l:List α}{m:Nat}(hm:m<l.length)(h:∀j (hj:j<l.length),j<m→p l[j])(h1:p l[m]):∀j (hj:j<l.length),j<m+1→p l[j]:=by
 intro j hj hlt
 by_cases hjm:j=m
 ·subst hjm;exact h1
 ·exact h j hj (by omega)
def arT(k:Int):Option Nat:=if k=1∨k=2∨k=5 then some 0 else if k=3∨k=4 then some 2 else none
mutual
def Ty.shape:Ty→Bool
 | .mk k xs=>(match arT k with|some n=>xs.length==n|none=>false)&&Ty.shapes xs
def Ty.shapes:List Ty→Bool
 |[]=>true
 |t::l=>t.shape&&Ty.shapes l
end
mutual
def Ty.size:Ty→Nat
 | .mk _ xs=>1+Ty.sizes xs
def Ty.sizes:List Ty→Nat
 |[]=>0
 |t::l=>t.size+Ty.sizes l
end
theorem Ty.sizes_eq:∀l:List Ty,Ty.sizes l=(l.map Ty.size).sum
 |[]=>rfl
 |t::l=>by simp only[Ty.sizes,Ty.sizes_eq l,List.map_cons,List.sum_cons]
theorem Ty.shapes_eq:∀l:List Ty,Ty.shapes l=l.all Ty.shape
 |[]=>rfl
 |t::l=>by simp only[Ty.shapes,Ty.shapes_eq l,List.all_cons]
theorem Ty.size_eq(t:Ty):t.size=1+(t.args.map Ty.size).sum:=by cases t;simp only[Ty.size,Ty.sizes_eq,Ty.args_mk]
theorem Ty.shape_eq(t:Ty):t.shape=((match arT t.kind with|some n=>t.args.length==n|none=>false)&&t.args.all Ty.shape):=by cases t;simp only[Ty.shape,Ty.shapes_eq,Ty.args_mk,Ty.kind_mk]
theorem Ty.size_pos(t:Ty):1≤t.size:=by rw[Ty.size_eq];omega
def Ty.nodes(t:Ty):Nat:=if t.shape then t.size else 0
theorem Ty.nodes_le(t:Ty):t.nodes≤t.size:=by simp only[Ty.nodes];split<;>omega
def arK(k:Int):Option Nat:=
 if k=1∨k=4∨k=7∨k=13 then some 0 else if k=2∨k=5∨k=11∨k=12 then some 1 else if k=3∨k=8∨k=10 then some 2 else if k=6∨k=9 then some 3 else none
def typedK(k:Int):Bool:=k==2||k==6||k==9
def Ty.isNo(t:Ty):Bool:=t.kind==0&&t.args.length==0
def Ty.ok(t:Ty):Bool:=t.shape&&decide (t.size≤64)
def Tm.head(t:Tm):Bool:=(match arK t.kind with|some n=>t.args.length==n|none=>false)&&decide (0≤t.index)&&(t.index==0||t.kind==1)&&(bif typedK t.kind then t.ty.ok else t.ty.isNo)
mutual
def Tm.shape:Tm→Bool
 | .mk k i h xs=>(Tm.mk k i h xs).head&&Tm.shapes xs
def Tm.shapes:List Tm→Bool
 |[]=>true
 |t::l=>t.shape&&Tm.shapes l
end
mutual
def Tm.size:Tm→Nat
 | .mk _ _ _ xs=>1+Tm.sizes xs
def Tm.sizes:List Tm→Nat
 |[]=>0
 |t::l=>t.size+Tm.sizes l
end
mutual
def Tm.full:Tm→Nat
 | .mk _ _ h xs=>1+h.size+Tm.fulls xs
def Tm.fulls:List Tm→Nat
 |[]=>0
 |t::l=>t.full+Tm.fulls l
end
theorem Tm.sizes_eq:∀l:List Tm,Tm.sizes l=(l.map Tm.size).sum
 |[]=>rfl
 |t::l=>by simp only[Tm.sizes,Tm.sizes_eq l,List.map_cons,List.sum_cons]
theorem Tm.fulls_eq:∀l:List Tm,Tm.fulls l=(l.map Tm.full).sum
 |[]=>rfl
 |t::l=>by simp only[Tm.fulls,Tm.fulls_eq l,List.map_cons,List.sum_cons]
theorem Tm.shapes_eq:∀l:List Tm,Tm.shapes l=l.all Tm.shape
 |[]=>rfl
 |t::l=>by simp only[Tm.shapes,Tm.shapes_eq l,List.all_cons]
theorem Tm.size_eq(t:Tm):t.size=1+(t.args.map Tm.size).sum:=by cases t;simp only[Tm.size,Tm.sizes_eq,Tm.args_mk]
theorem Tm.full_eq(t:Tm):t.full=1+t.ty.size+(t.args.map Tm.full).sum:=by cases t;simp only[Tm.full,Tm.fulls_eq,Tm.args_mk,Tm.ty_mk]
theorem Tm.shape_eq(t:Tm):t.shape=(t.head&&t.args.all Tm.shape):=by cases t;simp only[Tm.shape,Tm.shapes_eq,Tm.args_mk]
theorem Tm.size_pos(t:Tm):1≤t.size:=by rw[Tm.size_eq];omega
theorem Tm.full_pos(t:Tm):1≤t.full:=by rw[Tm.full_eq];omega
theorem Tm.ind{P:Tm→Prop}(h:∀t,(∀x∈t.args,P x)→P t)(t:Tm):P t:=by
 have:∀b (t:Tm),t.size≤b→P t:=by
  intro b
  induction b with
  |zero=>intro t ht;have:=t.size_pos;omega
  |succ b ih=>
   intro t ht
   refine h t fun x hx=>ih x ?_
   have:=lsum_mem Tm.size hx
   have:=t.size_eq
   omega
 exact this _ t (Nat.le_refl _)
theorem Tm.size_le_full(t:Tm):t.size≤t.full:=by
 induction t using Tm.ind with
 |h t ih=>
  have:∀l:List Tm,(∀x∈l,x.size≤x.full)→(l.map Tm.size).sum≤(l.map Tm.full).sum:=by
   intro l
   induction l with
   |nil=>intro _;simp
   |cons x l ih=>intro h;have:=ih fun y hy=>h y (by simp[hy]);have:=h x (by simp);simp only[List.map_cons,List.sum_cons];omega
  have:=this t.args ih
  rw[t.size_eq,t.full_eq];omega
def Tm.nodes(t:Tm):Nat:=if t.shape then t.size else 0
theorem Tm.nodes_le(t:Tm):t.nodes≤t.size:=by simp only[Tm.nodes];split<;>omega
def Ty.err(t:Ty):Int:=if t.shape=false then 2 else if t.size>64 then 4 else 0
def Ty.num(t:Ty):Int:=if t.err=0 then t.size else 0
def noTy:Ty:= .mk 0 []
def Tm.err(t:Tm):Int:=if t.shape=false then 2 else if t.size>4096 then 4 else 0
def Tm.num(t:Tm):Int:=if t.err=0 then t.size else 0
def noTm:Tm:= .mk 0 0 (.mk 0 []) []
def nodesT(t:Ty):V:= .tup [.i t.nodes,.bool t.shape]
def nodesM(t:Tm):V:= .tup [.i t.nodes,.bool t.shape]
abbrev big:Nat:=1099511627776
end Go.Ab
namespace Go.Ab
set_option linter.all false
mutual
def Ty.same:Ty→Ty→Bool
 | .mk k xs,.mk k' ys=>k==k'&&Ty.sames xs ys
def Ty.sames:List Ty→List Ty→Bool
 |[],[]=>true
 |x::xs,y::ys=>x.same y&&Ty.sames xs ys
 |_,_=>false
end
mutual
theorem Ty.same_iff:∀a b:Ty,a.same b=true↔a=b
 | .mk k xs,.mk k' ys=>by simp only[Ty.same,Bool.and_eq_true,beq_iff_eq,Ty.mk.injEq,Ty.sames_iff xs ys]
theorem Ty.sames_iff:∀a b:List Ty,Ty.sames a b=true↔a=b
 |[],[]=>by simp[Ty.sames]
 |x::xs,y::ys=>by simp only[Ty.sames,Bool.and_eq_true,List.cons.injEq,Ty.same_iff x y,Ty.sames_iff xs ys]
 |[],_::_=>by simp[Ty.sames]
 |_::_,[]=>by simp[Ty.sames]
end
instance:DecidableEq Ty:=fun a b=>decidable_of_iff _ (Ty.same_iff a b)
mutual
def Tm.same:Tm→Tm→Bool
 | .mk k i h xs,.mk k' i' h' ys=>k==k'&&i==i'&&decide (h=h')&&Tm.sames xs ys
def Tm.sames:List Tm→List Tm→Bool
 |[],[]=>true
 |x::xs,y::ys=>x.same y&&Tm.sames xs ys
 |_,_=>false
end
mutual
theorem Tm.same_iff:∀a b:Tm,a.same b=true↔a=b
 | .mk k i h xs,.mk k' i' h' ys=>by simp only[Tm.same,Bool.and_eq_true,beq_iff_eq,Tm.mk.injEq,Tm.sames_iff xs ys,decide_eq_true_eq,and_assoc]
theorem Tm.sames_iff:∀a b:List Tm,Tm.sames a b=true↔a=b
 |[],[]=>by simp[Tm.sames]
 |x::xs,y::ys=>by simp only[Tm.sames,Bool.and_eq_true,List.cons.injEq,Tm.same_iff x y,Tm.sames_iff xs ys]
 |[],_::_=>by simp[Tm.sames]
 |_::_,[]=>by simp[Tm.sames]
end
instance:DecidableEq Tm:=fun a b=>decidable_of_iff _ (Tm.same_iff a b)
theorem Ty.eq_iff(a b:Ty):a=b↔a.kind=b.kind∧a.args=b.args:=by cases a;cases b;simp
theorem Tm.eq_iff(a b:Tm):a=b↔a.kind=b.kind∧a.index=b.index∧a.ty=b.ty∧a.args=b.args:=by cases a;cases b;simp
theorem list_eq{α:Type}{xs ys:List α}(hl:xs.length=ys.length)(h:∀j (hj:j<xs.length),j<xs.length→xs[j]=ys[j]'(by omega)):xs=ys:=
 List.ext_getElem hl fun i h1 h2=>h i h1 h1
theorem list_ne{α:Type}{xs ys:List α}{m:Nat}(h1:m<xs.length)(h2:m<ys.length)(h:¬xs[m]=ys[m]):¬xs=ys:=fun he=>by subst he;exact h rfl
theorem step2{α:Type}{xs ys:List α}(hl:xs.length=ys.length){m:Nat}(hm:m<xs.length)(h:∀j (hj:j<xs.length),j<m→xs[j]=ys[j]'(by omega))(h1:xs[m]=ys[m]'(by omega)):∀j (hj:j<xs.length),j<m+1→xs[j]=ys[j]'(by omega):=by
 intro j hj hlt
 by_cases hjm:j=m
 ·subst hjm;exact h1
 ·exact h j hj (by omega)
def up(k b:Int):Int:=if k=2 then b+1 else b
mutual
def Tm.vars(b:Int):Tm→List (Int×Int)
 | .mk k i _ xs=>(if k=1 then [(i,b)] else [])++Tm.varss (up k b) xs
def Tm.varss(b:Int):List Tm→List (Int×Int)
 |[]=>[]
 |t::l=>t.vars b++Tm.varss b l
end
theorem Tm.varss_eq(b:Int):∀l:List Tm,Tm.varss b l=l.flatMap (Tm.vars b)
 |[]=>rfl
 |t::l=>by simp only[Tm.varss,Tm.varss_eq b l,List.flatMap_cons]
theorem Tm.vars_eq(b:Int)(t:Tm):t.vars b=(if t.kind=1 then [(t.index,b)] else [])++t.args.flatMap (Tm.vars (up t.kind b)):=by cases t;simp only[Tm.vars,Tm.varss_eq,Tm.kind_mk,Tm.index_mk,Tm.args_mk];rfl
mutual
def Tm.re(g:Int→Int→Tm)(b:Int):Tm→Tm
 | .mk k i h xs=>if k=1 then g i b else .mk k i h (Tm.res g (up k b) xs)
def Tm.res(g:Int→Int→Tm)(b:Int):List Tm→List Tm
 |[]=>[]
 |t::l=>t.re g b::Tm.res g b l
end
theorem Tm.res_eq(g:Int→Int→Tm)(b:Int):∀l:List Tm,Tm.res g b l=l.map (Tm.re g b)
 |[]=>rfl
 |t::l=>by simp only[Tm.res,Tm.res_eq g b l,List.map_cons]
theorem Tm.re_eq(g:Int→Int→Tm)(b:Int)(t:Tm):t.re g b=if t.kind=1 then g t.index b else .mk t.kind t.index t.ty (t.args.map (Tm.re g (up t.kind b))):=by cases t;simp only[Tm.re,Tm.res_eq,Tm.kind_mk,Tm.index_mk,Tm.args_mk,Tm.ty_mk];rfl
theorem flat_take{α β:Type}(f:α→List β)(l:List α)(m:Nat)(h:m<l.length):(l.take (m+1)).flatMap f=(l.take m).flatMap f++f l[m]:=by
 rw[←List.take_append_getElem h,List.flatMap_append];simp
theorem map_take{α β:Type}(f:α→β)(l:List α)(m:Nat)(h:m<l.length):(l.take (m+1)).map f=(l.take m).map f++[f l[m]]:=by
 rw[←List.take_append_getElem h,List.map_append];simp
theorem lsum_le{α:Type}{f g:α→Nat}:∀(l:List α),(∀x∈l,f x≤g x)→(l.map f).sum≤(l.map g).sum
 |[],_=>Nat.le_refl _
 |x::l,h=>by have:=lsum_le l fun y hy=>h y (by simp[hy]);have:=h x (by simp);simp only[List.map_cons,List.sum_cons];omega
theorem flatLen(l:List Tm)(f:Tm→List (Int×Int))(h:∀x∈l,(f x).length≤x.size):(l.flatMap f).length≤(l.map Tm.size).sum:=by
 induction l with
 |nil=>simp
 |cons x l ih=>
  have:=ih fun y hy=>h y (by simp[hy])
  have:=h x (by simp)
  simp only[List.flatMap_cons,List.length_append,List.map_cons,List.sum_cons];omega
theorem Tm.vars_len(t:Tm):∀b,(t.vars b).length≤t.size:=by
 induction t using Tm.ind with
 |h t ih=>
  intro b
  rw[t.vars_eq,t.size_eq]
  have:=flatLen t.args (Tm.vars (up t.kind b)) fun x hx=>ih x hx _
  split<;>simp only[List.length_append,List.length_cons,List.length_nil]<;>omega
def Tm.near(t:Tm):Bool:=(t.vars 0).all fun p=>decide (p.1≤536870912)
def cnt(at_:Int)(l:List (Int×Int)):Nat:=(l.filter fun p=>p.1-p.2==at_).length
theorem cnt_append(at_:Int)(l l':List (Int×Int)):cnt at_ (l++l')=cnt at_ l+cnt at_ l':=by simp[cnt]
theorem cnt_le(at_:Int)(l:List (Int×Int)):cnt at_ l≤l.length:=List.length_filter_le _ _
theorem Tm.vars_nonneg(t:Tm)(h:t.shape=true):∀b,∀p∈t.vars b,0≤p.1:=by
 induction t using Tm.ind with
 |h t ih=>
  intro b p hp
  rw[t.shape_eq,Bool.and_eq_true] at h
  rw[t.vars_eq,List.mem_append] at hp
  rcases hp with hp|hp
  ·split at hp
   ·simp at hp;subst hp
    have:=h.1
    simp only[Tm.head,Bool.and_eq_true,decide_eq_true_eq] at this
    exact this.1.1.2
   ·cases hp
  ·obtain ⟨x,hx,hp⟩:=List.mem_flatMap.1 hp
   exact ih x hx (List.all_eq_true.1 h.2 x hx) _ p hp
theorem tmod_lo(n k:Int)(hk:0<k): -k<n.tmod k:=by
 have h:=Int.natAbs_tmod n k
 have h2:=Nat.mod_lt n.natAbs (show 0<k.natAbs by omega)
 omega
def natT:Ty:= .mk 1 []
def listT:Ty:= .mk 2 []
def unitT:Ty:= .mk 5 []
def twoT(a b:Ty):Ty:= .mk 3 [a,b]
def funT(a b:Ty):Ty:= .mk 4 [a,b]
def okT(t:Ty):Ty×Int:=if t.err=0 then(t,0) else(noTy,4)
def at0(l:List Ty)(i:Nat):Ty:=l.getD i noTy
def rule(k:Int)(h:Ty)(l:List Ty):Ty×Int:=
 let a:=at0 l 0
 let b:=at0 l 1
 let c:=at0 l 2
 if k=3 then(if ¬a.kind=4∨¬at0 a.args 0=b then(noTy,7) else(at0 a.args 1,0))
 else if k=4 then(natT,0)
 else if k=5 then(if ¬a=natT then(noTy,7) else(natT,0))
 else if k=6 then(if ¬a=h∨¬b=funT natT (funT h h)∨¬c=natT then(noTy,7) else(h,0))
 else if k=7 then(listT,0)
 else if k=8 then(if ¬a=natT∨¬b=listT then(noTy,7) else(listT,0))
 else if k=9 then(if ¬a=h∨¬b=funT natT (funT listT (funT h h))∨¬c=listT then(noTy,7) else(h,0))
 else if k=10 then okT (twoT a b)
 else if k=11∨k=12 then(if ¬a.kind=3 then(noTy,7) else if k=11 then(at0 a.args 0,0) else(at0 a.args 1,0))
 else(unitT,0)
mutual
def Tm.inf:List Ty→Tm→Ty×Int
 |g,.mk k i h xs=>
  if k=1 then(if i≥g.length then(noTy,6) else(at0 g (g.length-1-i.toNat),0))
  else if k=2 then(if(Tm.infs (g++[h]) xs).2≠0 then(noTy,(Tm.infs (g++[h]) xs).2) else okT (funT h (at0 (Tm.infs (g++[h]) xs).1 0)))
  else if(Tm.infs g xs).2≠0 then(noTy,(Tm.infs g xs).2) else rule k h (Tm.infs g xs).1
def Tm.infs:List Ty→List Tm→List Ty×Int
 |_,[]=>([],0)
 |g,t::l=>if(t.inf g).2≠0 then([],(t.inf g).2) else if(Tm.infs g l).2≠0 then([],(Tm.infs g l).2) else((t.inf g).1::(Tm.infs g l).1,0)
end
theorem cnt_one(at_:Int)(p:Int×Int):cnt at_ [p]=if p.1-p.2=at_ then 1 else 0:=by simp only[cnt,List.filter_cons,List.filter_nil];by_cases h:p.1-p.2=at_<;>simp[h]
def liftG(fr by_:Int)(i b:Int):Tm:= .mk 1 (if i-b≥fr then i+by_ else i) (.mk 0 []) []
def putG(at_:Int)(s:Tm)(i b:Int):Tm:=if i-b=at_ then s.re (liftG 0 (at_+b)) 0 else .mk 1 (if i-b>at_ then i-1 else i) (.mk 0 []) []
def modI(n k:Int):Int:=((n.tmod k)+k).tmod k
structure Dk where
 l:List Int
 at_:Nat
def Dk.ok(d:Dk):Prop:=d.at_≤d.l.length∧d.l.length<1099511627776
def Dk.next(d:Dk)(n:Int):Int×Dk:=if h:n<1∨d.l.length≤d.at_ then(0,d) else(modI (d.l[d.at_]'(by omega)) n,⟨d.l,d.at_+1⟩)
def Dk.cells(d:Dk):List V:=[.s .int d.l,.i d.at_]
def putErr(t:Tm)(at_:Int)(s:Tm):Int:=
 if t.err≠0 then t.err else if ¬(0≤at_∧at_≤4096) then 1 else if s.err≠0 then s.err else if t.near=false∨s.near=false then 1 else if(t.size:Int)+cnt at_ (t.vars 0)*(s.size-1)>4096 then 4 else 0
theorem err_zero{t:Tm}(h:t.err=0):t.shape=true∧t.size≤4096:=by
 simp only[Tm.err] at h
 split at h
 ·omega
 ·split at h
  ·omega
  ·rename_i h1 h2;exact⟨by simpa using h1,by omega⟩
theorem near_lt{t:Tm}(h:t.err=0)(hn:t.near=true):∀p∈t.vars 0,0≤p.1∧p.1<549755813888:=fun p hp=>
 ⟨t.vars_nonneg (err_zero h).1 0 p hp,by have:=List.all_eq_true.1 hn p hp;simp at this;omega⟩
theorem num_le(t:Tm):0≤t.num∧t.num≤4096:=by
 simp only[Tm.num];split
 ·rename_i h;have:=(err_zero h).2;omega
 ·omega
theorem mul_bd(c d:Int)(hc:0≤c∧c≤274877906944)(hd: -1≤d∧d≤4096): -274877906944≤c*d∧c*d≤1125899906842624:=by
 constructor
 ·have:=Int.mul_le_mul_of_nonneg_left hd.1 hc.1;omega
 ·have:=Int.mul_le_mul_of_nonneg_left hd.2 hc.1;omega
theorem Dk.next_ok{d:Dk}(h:d.ok)(n:Int):(d.next n).2.ok:=by
 simp only[Dk.next];split
 ·exact h
 ·rename_i hc;obtain⟨h1,h2⟩:=h;exact⟨by simp only;omega,h2⟩
def Dk.type:Nat→Dk→Ty×Dk
 |0,d=>let r:=d.next 7;(if r.1=3 then .mk 2 [] else if r.1=4 then .mk 5 [] else .mk 1 [],r.2)
 |n+1,d=>
  let r:=d.next 7
  if r.1=5∨r.1=6 then
   let a:=r.2.type n
   let b:=a.2.type n
   (.mk (if r.1=5 then 3 else 4) [a.1,b.1],b.2)
  else(if r.1=3 then .mk 2 [] else if r.1=4 then .mk 5 [] else .mk 1 [],r.2)
theorem Dk.type_ok:∀(n:Nat) (d:Dk),d.ok→(d.type n).2.ok
 |0,d,h=>Dk.next_ok h 7
 |n+1,d,h=>by
  simp only[Dk.type];split
  ·exact Dk.type_ok n _ (Dk.type_ok n _ (Dk.next_ok h 7))
  ·exact Dk.next_ok h 7
theorem Dk.type_eq(k:Int)(d:Dk):d.type k.toNat=(if 0<k∧((d.next 7).1=5∨(d.next 7).1=6) then
 (.mk (if(d.next 7).1=5 then 3 else 4) [((d.next 7).2.type (k-1).toNat).1,((((d.next 7).2.type (k-1).toNat).2).type (k-1).toNat).1],((((d.next 7).2.type (k-1).toNat).2).type (k-1).toNat).2)
 else(if(d.next 7).1=3 then .mk 2 [] else if(d.next 7).1=4 then .mk 5 [] else .mk 1 [],(d.next 7).2)):=by
 by_cases hk:0<k
 ·have e:k.toNat=(k-1).toNat+1:=by omega
  rw[e];simp only[Dk.type,hk,true_and]
 ·have e:k.toNat=0:=by omega
  rw[e];simp only[Dk.type,hk,false_and,if_false]
theorem Dk.type_size:∀(n:Nat) (d:Dk),(d.type n).1.size≤2^(n+1)-1
 |0,d=>by simp only[Dk.type];(repeat' split)<;>simp[Ty.size_eq]
 |n+1,d=>by
  have h1:=Dk.type_size n (d.next 7).2
  have h2:=Dk.type_size n ((d.next 7).2.type n).2
  have h3:2^(n+1+1)=2^(n+1)+2^(n+1):=by rw[Nat.pow_succ];omega
  have h4:2≤2^(n+1):=by rw[Nat.pow_succ];have:= @Nat.one_le_two_pow n;omega
  simp only[Dk.type];split
  ·rw [Ty.size_eq];simp only[Ty.args_mk,List.map_cons,List.map_nil,List.sum_cons,List.sum_nil];omega
  ·have:∀x:Int,(Ty.mk x []).size=1:=fun x=>by simp[Ty.size_eq]
   simp only
   (repeat' split)<;>rw[this]<;>omega
theorem Dk.type_small(d:Dk)(k:Int)(h:k≤20):(d.type k.toNat).1.size<1099511627776:=by
 have h1:=Dk.type_size k.toNat d
 have h2:2^(k.toNat+1)≤2^21:=Nat.pow_le_pow_right (by omega) (by omega)
 omega
def numT:Nat→Tm
 |0=> .mk 4 0 (.mk 0 []) []
 |n+1=> .mk 5 0 (.mk 0 []) [numT n]
def numOf(n:Int):Tm:=if 0≤n∧n<4096 then numT n.toNat else noTm
def Dk.types:Nat→Dk→List Ty×Dk
 |0,d=>([],d)
 |n+1,d=>let a:=d.type 1;let b:=a.2.types n;(a.1::b.1,b.2)
theorem Dk.types_snoc:∀(n:Nat) (d:Dk),d.types (n+1)=((d.types n).1++[((d.types n).2.type 1).1],((d.types n).2.type 1).2)
 |0,d=>rfl
 |n+1,d=>by
  have:=Dk.types_snoc n (d.type 1).2
  show((d.type 1).1::((d.type 1).2.types (n+1)).1,((d.type 1).2.types (n+1)).2)=_
  rw[this];rfl
theorem Dk.types_ok:∀(n:Nat) (d:Dk),d.ok→(d.types n).2.ok
 |0,d,h=>h
 |n+1,d,h=>Dk.types_ok n _ (Dk.type_ok 1 d h)
theorem Dk.types_len:∀(n:Nat) (d:Dk),(d.types n).1.length=n
 |0,d=>rfl
 |n+1,d=>by simp[Dk.types,Dk.types_len n]
theorem modI_nonneg(n k:Int)(hk:0<k):0≤modI n k∧modI n k<k:=by
 have h1:=tmod_lo n k hk
 constructor
 ·exact Int.tmod_nonneg _ (by omega)
 ·exact Int.tmod_lt_of_pos _ hk
theorem Dk.next_bd(d:Dk)(n:Int)(hn:0<n):0≤(d.next n).1∧(d.next n).1<n:=by
 simp only[Dk.next];split
 ·exact ⟨by simp,hn⟩
 ·exact modI_nonneg _ _ hn
def Dk.ctx(d:Dk):List Ty×Dk:=(d.next 4).2.types (d.next 4).1.toNat
def appT(f:Tm):List Tm→Tm
 |[]=>f
 |x::l=>appT (.mk 3 0 (.mk 0 []) [f,x]) l
def vT(i:Int):Tm:= .mk 1 i (.mk 0 []) []
def lamT(t:Tm):Tm:= .mk 2 0 (.mk 1 []) [t]
def recT(b f n:Tm):Tm:= .mk 6 0 (.mk 1 []) [b,f,n]
def sT(t:Tm):Tm:= .mk 5 0 (.mk 0 []) [t]
def zT:Tm:= .mk 4 0 (.mk 0 []) []
def apT(f x:Tm):Tm:= .mk 3 0 (.mk 0 []) [f,x]
def addF:Tm:=lamT (lamT (sT (vT 0)))
def plusT:Tm:=lamT (lamT (recT (vT 1) addF (vT 0)))
def predT:Tm:=lamT (recT zT (lamT (lamT (vT 1))) (vT 0))
def subF:Tm:=lamT (lamT (apT predT (vT 0)))
def subT:Tm:=lamT (lamT (recT (vT 1) subF (vT 0)))
def liftErr(t:Tm)(fr by_:Int):Int:=if t.err≠0 then t.err else if ¬(0≤fr∧fr≤4096)∨¬(0≤by_∧by_≤4096)∨t.near=false then 1 else 0
def varsT(g:List Ty)(t:Ty):List Int:=((List.range g.length).filter fun i=>decide (g[g.length-1-i]? =some t)).map Int.ofNat
def firstErr:List Ty→Int
 |[]=>0
 |t::l=>if t.err≠0 then t.err else firstErr l
theorem firstErr_at:∀(l:List Ty) (m:Nat) (hm:m<l.length),(∀j (hj:j<l.length),j<m→l[j].err=0)→l[m].err≠0→firstErr l=l[m].err:=by
 intro l
 induction l with
 |nil=>intro m hm;simp at hm
 |cons t l ih=>
  intro m hm h h1
  cases m with
  |zero=>simp only[List.getElem_cons_zero] at h1;simp only[firstErr];rw[if_pos h1];rfl
  |succ m=>
   have h0:=h 0 (by simp) (by omega)
   simp only[List.getElem_cons_zero] at h0
   simp only[firstErr,h0,ne_eq,not_true_eq_false,if_false,List.getElem_cons_succ]
   simp only[List.length_cons] at hm
   exact ih m (by omega) (fun j hj hlt=>by have:=h (j+1) (by simp;omega) (by omega);simpa using this) h1
theorem firstErr_none:∀(l:List Ty),(∀j (hj:j<l.length),j<l.length→l[j].err=0)→firstErr l=0:=by
 intro l
 induction l with
 |nil=>intro _;rfl
 |cons t l ih=>
  intro h
  have h0:=h 0 (by simp) (by simp)
  simp only[List.getElem_cons_zero] at h0
  simp only[firstErr,h0,ne_eq,not_true_eq_false,if_false]
  exact ih fun j hj _=>by have:=h (j+1) (by simp;omega) (by simp;omega);simpa using this
def ctxErr(l:List Ty):Int:=if l.length>16 then 3 else firstErr l
def argsI(k:Int):Int:=if k=1∨k=4∨k=7∨k=13 then 0 else if k=2∨k=5∨k=11∨k=12 then 1 else if k=3∨k=8∨k=10 then 2 else if k=6∨k=9 then 3 else -1
def nT(k:Int)(l:List Tm):Tm:= .mk k 0 (.mk 0 []) l
def hT(k:Int)(s:Ty)(l:List Tm):Tm:= .mk k 0 s l
def lmT(s:Ty)(x:Tm):Tm:= .mk 2 0 s [x]
def isFn(g:List Ty)(t:Ty)(i:Nat):Bool:=(at0 g (g.length-1-i)).kind==4&&decide (at0 (at0 g (g.length-1-i)).args 1=t)
def findF(g:List Ty)(t:Ty):Option Nat:=(List.range g.length).find? (isFn g t)
abbrev MkF:=Dk→List Ty→Ty→Tm×Dk
def Dk.fin(rec:MkF)(pos:Bool)(d:Dk)(g:List Ty)(t:Ty):Tm×Dk:=
 if t.kind=1 then
  if pos=true then
   if(d.next 5).1=0 then(sT (rec (d.next 5).2 g t).1,(rec (d.next 5).2 g t).2)
   else if(d.next 5).1=1 then
    (apT (apT plusT (rec (d.next 5).2 g t).1) (rec (rec (d.next 5).2 g t).2 g t).1,(rec (rec (d.next 5).2 g t).2 g t).2)
   else if(d.next 5).1=2 then
    (apT (apT subT (rec (d.next 5).2 g t).1) (rec (rec (d.next 5).2 g t).2 g t).1,(rec (rec (d.next 5).2 g t).2 g t).2)
   else(numOf ((d.next 5).2.next 3).1,((d.next 5).2.next 3).2)
  else(numOf (d.next 3).1,(d.next 3).2)
 else if t.kind=2 then
  if pos=true then
   if(d.next 2).1=0 then(nT 8 [(rec (d.next 2).2 g natT).1,(rec (rec (d.next 2).2 g natT).2 g t).1],(rec (rec (d.next 2).2 g natT).2 g t).2)
   else(nT 7 [],(d.next 2).2)
  else(nT 7 [],d)
 else if t.kind=3 then(nT 10 [(rec d g (at0 t.args 0)).1,(rec (rec d g (at0 t.args 0)).2 g (at0 t.args 1)).1],(rec (rec d g (at0 t.args 0)).2 g (at0 t.args 1)).2)
 else if t.kind=4 then(lmT (at0 t.args 0) (rec d (g++[at0 t.args 0]) (at0 t.args 1)).1,(rec d (g++[at0 t.args 0]) (at0 t.args 1)).2)
 else(nT 13 [],d)
def Dk.m0(rec:MkF)(d:Dk)(g:List Ty)(t s:Ty):Tm×Dk:=(apT (lmT s (rec d (g++[s]) t).1) (rec (rec d (g++[s]) t).2 g s).1,(rec (rec d (g++[s]) t).2 g s).2)
def Dk.m1(rec:MkF)(d:Dk)(g:List Ty)(t s:Ty):Tm×Dk:=(nT 11 [nT 10 [(rec d g t).1,(rec (rec d g t).2 g s).1]],(rec (rec d g t).2 g s).2)
def Dk.m2(rec:MkF)(d:Dk)(g:List Ty)(t:Ty):Tm×Dk:=
 (hT 6 t [(rec (rec d (g++[natT,t]) t).2 g t).1,lmT natT (lmT t (rec d (g++[natT,t]) t).1),numOf ((rec (rec d (g++[natT,t]) t).2 g t).2.next 3).1],((rec (rec d (g++[natT,t]) t).2 g t).2.next 3).2)
def Dk.m3(rec:MkF)(d:Dk)(g:List Ty)(t:Ty):Tm×Dk:=
 (hT 9 t [(rec (rec d (g++[natT,listT,t]) t).2 g t).1,lmT natT (lmT listT (lmT t (rec d (g++[natT,listT,t]) t).1)),(rec (rec (rec d (g++[natT,listT,t]) t).2 g t).2 g listT).1],(rec (rec (rec d (g++[natT,listT,t]) t).2 g t).2 g listT).2)
def Dk.m4(rec:MkF)(d:Dk)(g:List Ty)(t s:Ty):Tm×Dk:=(nT 12 [nT 10 [(rec d g s).1,(rec (rec d g s).2 g t).1]],(rec (rec d g s).2 g t).2)
def Dk.m5(rec:MkF)(pos:Bool)(d:Dk)(g:List Ty)(t:Ty):Tm×Dk:=
 match findF g t with
 |some i=>(apT (vT i) (rec d g (at0 (at0 g (g.length-1-i)).args 0)).1,(rec d g (at0 (at0 g (g.length-1-i)).args 0)).2)
 |none=>d.fin rec pos g t
def Dk.mid(rec:MkF)(pos:Bool)(d:Dk)(g:List Ty)(t:Ty):Tm×Dk:=
 if pos=true then
  if(d.next 8).1=0 then((d.next 8).2.type 0).2.m0 rec g t ((d.next 8).2.type 0).1
  else if(d.next 8).1=1 then((d.next 8).2.type 0).2.m1 rec g t ((d.next 8).2.type 0).1
  else if(d.next 8).1=2 then(d.next 8).2.m2 rec g t
  else if(d.next 8).1=3 then(d.next 8).2.m3 rec g t
  else if(d.next 8).1=4 then((d.next 8).2.type 0).2.m4 rec g t ((d.next 8).2.type 0).1
  else if(d.next 8).1=5 then(d.next 8).2.m5 rec pos g t
  else(d.next 8).2.fin rec pos g t
 else d.fin rec pos g t
theorem Dk.mid_pos{rec:MkF}{pos:Bool}{d:Dk}{g:List Ty}{t:Ty}(h:pos=true):d.mid rec pos g t=
 if(d.next 8).1=0 then((d.next 8).2.type 0).2.m0 rec g t ((d.next 8).2.type 0).1
 else if(d.next 8).1=1 then((d.next 8).2.type 0).2.m1 rec g t ((d.next 8).2.type 0).1
 else if(d.next 8).1=2 then(d.next 8).2.m2 rec g t
 else if(d.next 8).1=3 then(d.next 8).2.m3 rec g t
 else if(d.next 8).1=4 then((d.next 8).2.type 0).2.m4 rec g t ((d.next 8).2.type 0).1
 else if(d.next 8).1=5 then(d.next 8).2.m5 rec pos g t
 else(d.next 8).2.fin rec pos g t:=if_pos h
def Dk.gen(rec:MkF)(pos:Bool)(d:Dk)(g:List Ty)(t:Ty):Tm×Dk:=
 if varsT g t=[] then d.mid rec pos g t
 else if 0<(d.next 3).1 then(vT ((varsT g t).getD ((d.next 3).2.next (varsT g t).length).1.toNat 0),((d.next 3).2.next (varsT g t).length).2)
 else(d.next 3).2.mid rec pos g t
def Dk.tm:Nat→MkF
 |0,d,_,_=>(noTm,d)
 |n+1,d,g,t=>d.gen (Dk.tm n) (decide (2≤n)) g t
def Ty.small(t:Ty):Prop:=t.shape=true∧t.size≤3
def smalls(g:List Ty):Prop:=∀t∈g,t.small
inductive Mk:Nat→List Ty→Ty→Tm→Prop
 |var (n g t) (i:Nat) (hi:i<g.length) (h:at0 g (g.length-1-i)=t):Mk (n+1) g t (vT i)
 |app (n g t s a b) (hn:2≤n) (hs:s.shape=true) (h1:s.size=1) (ha:Mk n (g++[s]) t a) (hb:Mk n g s b):Mk (n+1) g t (apT (lmT s a) b)
 |fst (n g t s a b) (hn:2≤n) (hs:s.shape=true) (h1:s.size=1) (ha:Mk n g t a) (hb:Mk n g s b):Mk (n+1) g t (nT 11 [nT 10 [a,b]])
 |snd (n g t s a b) (hn:2≤n) (hs:s.shape=true) (h1:s.size=1) (ha:Mk n g s a) (hb:Mk n g t b):Mk (n+1) g t (nT 12 [nT 10 [a,b]])
 |recu (n g t a b m) (hn:2≤n) (hm:m<3) (ha:Mk n (g++[natT,t]) t a) (hb:Mk n g t b):Mk (n+1) g t (hT 6 t [b,lmT natT (lmT t a),numT m])
 |fold (n g t a b c) (hn:2≤n) (ha:Mk n (g++[natT,listT,t]) t a) (hb:Mk n g t b) (hc:Mk n g listT c):Mk (n+1) g t (hT 9 t [b,lmT natT (lmT listT (lmT t a)),c])
 |ctx (n g t s a) (hn:2≤n) (i:Nat) (hi:i<g.length) (h:at0 g (g.length-1-i)=funT s t) (h1:s.size=1) (ha:Mk n g s a):Mk (n+1) g t (apT (vT i) a)
 |succ (n g a) (hn:2≤n) (ha:Mk n g natT a):Mk (n+1) g natT (sT a)
 |plus (n g a b) (hn:2≤n) (ha:Mk n g natT a) (hb:Mk n g natT b):Mk (n+1) g natT (apT (apT plusT a) b)
 |sub (n g a b) (hn:2≤n) (ha:Mk n g natT a) (hb:Mk n g natT b):Mk (n+1) g natT (apT (apT subT a) b)
 |num (n g m) (hm:m<3):Mk (n+1) g natT (numT m)
 |cons (n g a b) (hn:2≤n) (ha:Mk n g natT a) (hb:Mk n g listT b):Mk (n+1) g listT (nT 8 [a,b])
 |nil (n g):Mk (n+1) g listT (nT 7 [])
 |pair (n g s t a b) (h1:s.size=1) (h2:t.size=1) (ha:Mk n g s a) (hb:Mk n g t b):Mk (n+1) g (twoT s t) (nT 10 [a,b])
 |lam (n g s t a) (h1:s.size=1) (h2:t.size=1) (ha:Mk n (g++[s]) t a):Mk (n+1) g (funT s t) (lmT s a)
 |unit (n g):Mk (n+1) g unitT (nT 13 [])
theorem Dk.fin_ok{rec:MkF}{pos:Bool}{d:Dk}{g:List Ty}{t:Ty}(h:∀d g t,d.ok→(rec d g t).2.ok)(hd:d.ok):(d.fin rec pos g t).2.ok:=by
 have h5:=Dk.next_ok hd 5
 have h3:=Dk.next_ok hd 3
 have h2:=Dk.next_ok hd 2
 unfold Dk.fin
 repeat' split
 all_goals first
  |exact hd|exact h3|exact h2|exact Dk.next_ok h5 3|exact h _ _ _ h5|exact h _ _ _ (h _ _ _ h5)|exact h _ _ _ (h _ _ _ h2)|exact h _ _ _ (h _ _ _ hd)|exact h _ _ _ hd
theorem Dk.mid_ok{rec:MkF}{pos:Bool}{d:Dk}{g:List Ty}{t:Ty}(h:∀d g t,d.ok→(rec d g t).2.ok)(hd:d.ok):(d.mid rec pos g t).2.ok:=by
 have h8:=Dk.next_ok hd 8
 have hs:=Dk.type_ok 0 _ h8
 have hf:=Dk.fin_ok (pos:=pos) (g:=g) (t:=t) h h8
 unfold Dk.mid Dk.m0 Dk.m1 Dk.m2 Dk.m3 Dk.m4 Dk.m5
 repeat' split
 all_goals first
  |exact hf|exact Dk.fin_ok h hd|exact h _ _ _ (h _ _ _ hs)|exact Dk.next_ok (h _ _ _ (h _ _ _ h8)) 3|exact h _ _ _ (h _ _ _ (h _ _ _ h8))|exact h _ _ _ h8
theorem Dk.gen_ok{rec:MkF}{pos:Bool}{d:Dk}{g:List Ty}{t:Ty}(h:∀d g t,d.ok→(rec d g t).2.ok)(hd:d.ok):(d.gen rec pos g t).2.ok:=by
 unfold Dk.gen
 repeat' split
 ·exact Dk.mid_ok h hd
 ·exact Dk.next_ok (Dk.next_ok hd 3) _
 ·exact Dk.mid_ok h (Dk.next_ok hd 3)
theorem Dk.tm_ok:∀(n:Nat) (d:Dk) (g:List Ty) (t:Ty),d.ok→(Dk.tm n d g t).2.ok
 |0,d,_,_,h=>h
 |n+1,d,g,t,h=>Dk.gen_ok (fun d g t hd=>Dk.tm_ok n d g t hd) h
theorem Ty.err_iff(t:Ty):t.err=0↔t.shape=true∧t.size≤64:=by
 simp only[Ty.err]
 cases t.shape
 ·simp
 ·by_cases h:t.size>64
  ·simp [h]
  ·simp [h];omega
theorem Ty.err_args{t x:Ty}(h:t.err=0)(hx:x∈t.args):x.err=0:=by
 rw[Ty.err_iff] at h ⊢
 have h1:=lsum_mem Ty.size hx
 have h2:=t.size_eq
 have h3:=h.1
 rw[Ty.shape_eq,Bool.and_eq_true] at h3
 exact⟨List.all_eq_true.1 h3.2 x hx,by omega⟩
theorem Ty.args_two{t:Ty}(h:t.shape=true)(hk:t.kind=3∨t.kind=4):∃x y,t.args=[x,y]:=by
 rw[Ty.shape_eq,Bool.and_eq_true] at h
 have h1:arT t.kind=some 2:=by rcases hk with hk|hk<;>rw[hk]<;>rfl
 have h2:=h.1
 rw[h1] at h2
 simp at h2
 match hl:t.args,h2 with
 |[x,y],_=>exact⟨x,y,rfl⟩
theorem at0_lt{l:List Ty}{i:Nat}(h:i<l.length):at0 l i=l[i]:=by simp[at0,h]
theorem at0_mem{l:List Ty}{i:Nat}(h:i<l.length):at0 l i∈l:=by rw[at0_lt h];exact List.getElem_mem h
@[simp] theorem at0_cons0(x:Ty)(l:List Ty):at0 (x::l) 0=x:=rfl
@[simp] theorem at0_cons1(x y:Ty)(l:List Ty):at0 (x::y::l) 1=y:=rfl
@[simp] theorem at0_cons2(x y z:Ty)(l:List Ty):at0 (x::y::z::l) 2=z:=rfl
theorem Tm.infs_ok(g:List Ty):∀(xs:List Tm),(∀x∈xs,(x.inf g).2=0)→Tm.infs g xs=(xs.map fun x=>(x.inf g).1,0):=by
 intro xs
 induction xs with
 |nil=>intro _;rfl
 |cons x l ih=>
  intro h
  have h0:=h x (by simp)
  have h1:=ih fun y hy=>h y (by simp[hy])
  simp only[Tm.infs,h0,h1,ne_eq,not_true_eq_false,if_false,List.map_cons]
theorem Tm.infs_all(g:List Ty):∀(xs:List Tm),(Tm.infs g xs).2=0→∀x∈xs,(x.inf g).2=0:=by
 intro xs
 induction xs with
 |nil=>intro _ x hx;cases hx
 |cons y l ih=>
  intro h x hx
  simp only[Tm.infs] at h
  by_cases h1:(y.inf g).2=0
  ·by_cases h2:(Tm.infs g l).2=0
   ·rcases List.mem_cons.1 hx with rfl|hx
    ·exact h1
    ·exact ih h2 x hx
   ·simp only[h1,h2,ne_eq,not_true_eq_false,if_false,not_false_eq_true,if_true] at h
  ·rw [if_pos h1] at h;exact absurd h h1
theorem Tm.inf_eq(g:List Ty)(t:Tm):t.inf g=(if t.kind=1 then(if t.index≥g.length then(noTy,6) else(at0 g (g.length-1-t.index.toNat),0))
 else if t.kind=2 then(if(Tm.infs (g++[t.ty]) t.args).2≠0 then(noTy,(Tm.infs (g++[t.ty]) t.args).2) else okT (funT t.ty (at0 (Tm.infs (g++[t.ty]) t.args).1 0)))
 else if(Tm.infs g t.args).2≠0 then(noTy,(Tm.infs g t.args).2) else rule t.kind t.ty (Tm.infs g t.args).1):=by
 cases t;rfl
theorem okT_good{t:Ty}(h:(okT t).2=0):(okT t).1.err=0:=by
 simp only[okT] at h ⊢;split
 ·rename_i h1;exact h1
 ·rename_i h1;simp[h1] at h
theorem arK_len{t:Tm}(h:t.shape=true):arK t.kind=some t.args.length:=by
 rw[Tm.shape_eq,Bool.and_eq_true] at h
 have h1:=h.1
 simp only[Tm.head,Bool.and_eq_true] at h1
 have h2:=h1.1.1.1
 split at h2
 ·rename_i n hn;rw[hn];simp at h2;rw[h2]
 ·cases h2
theorem shape_args{t:Tm}(h:t.shape=true):∀x∈t.args,x.shape=true:=by
 rw[Tm.shape_eq,Bool.and_eq_true] at h
 exact List.all_eq_true.1 h.2
theorem shape_index{t:Tm}(h:t.shape=true):0≤t.index∧(t.kind≠1→t.index=0):=by
 rw[Tm.shape_eq,Bool.and_eq_true] at h
 have h1:=h.1
 simp only[Tm.head,Bool.and_eq_true,decide_eq_true_eq,Bool.or_eq_true,beq_iff_eq] at h1
 exact⟨h1.1.1.2,fun hk=>h1.1.2.resolve_right hk⟩
theorem shape_ty{t:Tm}(h:t.shape=true)(hk:typedK t.kind=true):t.ty.err=0:=by
 rw[Tm.shape_eq,Bool.and_eq_true] at h
 have h1:=h.1
 simp only[Tm.head,Bool.and_eq_true,hk,cond_true] at h1
 have h2:=h1.2
 simp only[Ty.ok,Bool.and_eq_true,decide_eq_true_eq] at h2
 exact(Ty.err_iff _).2 h2
theorem arK_cases{k:Int}{n:Nat}(h:arK k=some n):(n=0∧(k=1∨k=4∨k=7∨k=13))∨(n=1∧(k=2∨k=5∨k=11∨k=12))∨(n=2∧(k=3∨k=8∨k=10))∨(n=3∧(k=6∨k=9)):=by
 simp only[arK] at h
 (repeat' split at h)<;>simp_all<;>omega
theorem len1{α:Type}{l:List α}(h:l.length=1):l=[l[0]'(by omega)]:=by
 match l,h with
 |[x],_=>rfl
theorem len_1{α:Type}{l:List α}(h:l.length=1):∃x,l=[x]:=⟨_,len1 h⟩
theorem len_2{α:Type}{l:List α}(h:l.length=2):∃x y,l=[x,y]:=by
 match l,h with
 |[x,y],_=>exact⟨x,y,rfl⟩
theorem len_3{α:Type}{l:List α}(h:l.length=3):∃x y z,l=[x,y,z]:=by
 match l,h with
 |[x,y,z],_=>exact⟨x,y,z,rfl⟩
theorem rule_good{k:Int}{h:Ty}{l:List Ty}(hk:arK k=some l.length)(hl:∀x∈l,x.err=0)(hh:typedK k=true→h.err=0)(h0:(rule k h l).2=0):(rule k h l).1.err=0:=by
 have h1:∀i,i<l.length→(at0 l i).err=0:=fun i hi=>hl _ (at0_mem hi)
 have h2:∀i,i<l.length→(at0 l i).kind=3∨(at0 l i).kind=4→∀j,j<2→(at0 (at0 l i).args j).err=0:=by
  intro i hi hk j hj
  obtain⟨x,y,hxy⟩:=Ty.args_two ((Ty.err_iff _).1 (h1 i hi)).1 hk
  refine Ty.err_args (h1 i hi) ?_
  exact at0_mem (by rw[hxy];exact hj)
 rcases arK_cases hk with⟨hn,hk⟩|⟨hn,hk⟩|⟨hn,hk⟩|⟨hn,hk⟩
 ·rcases hk with rfl|rfl|rfl|rfl<;>rfl
 ·rcases hk with rfl|rfl|rfl|rfl
  ·rfl
  ·simp only[rule] at h0 ⊢;simp at h0 ⊢;split<;>first|rfl|(exfalso;rename_i hc;simp[hc] at h0)
  ·simp only[rule] at h0 ⊢;simp at h0 ⊢
   by_cases hc:(at0 l 0).kind=3
   ·simp only[hc,if_true];exact h2 0 (by omega) (.inl hc) 0 (by omega)
   ·simp [hc] at h0
  ·simp only[rule] at h0 ⊢;simp at h0 ⊢
   by_cases hc:(at0 l 0).kind=3
   ·simp only[hc,if_true];exact h2 0 (by omega) (.inl hc) 1 (by omega)
   ·simp [hc] at h0
 ·rcases hk with rfl|rfl|rfl
  ·simp only[rule] at h0 ⊢
   simp only[if_true] at h0 ⊢
   by_cases hc:¬(at0 l 0).kind=4∨¬at0 (at0 l 0).args 0=at0 l 1
   ·simp [hc] at h0
   ·rw [if_neg hc]
    have:(at0 l 0).kind=4:=by simp at hc;exact hc.1
    exact h2 0 (by omega) (.inr this) 1 (by omega)
  ·simp only[rule] at h0 ⊢;simp at h0 ⊢;split<;>first|rfl|(exfalso;rename_i hc;simp[hc] at h0)
  ·simp only[rule] at h0 ⊢;simp at h0 ⊢;exact okT_good h0
 ·rcases hk with rfl|rfl
  ·simp only[rule] at h0 ⊢;simp at h0 ⊢;split
   ·rename_i hc;simp[hc] at h0
   ·exact hh rfl
  ·simp only[rule] at h0 ⊢;simp at h0 ⊢;split
   ·rename_i hc;simp[hc] at h0
   ·exact hh rfl
theorem Tm.inf_good(t:Tm):∀g:List Ty,t.shape=true→(∀x∈g,x.err=0)→(t.inf g).2=0→(t.inf g).1.err=0:=by
 induction t using Tm.ind with
 |h t ih=>
  intro g hsh hg h0
  rw[Tm.inf_eq] at h0 ⊢
  by_cases h1:t.kind=1
  ·simp only[h1,if_true] at h0 ⊢
   by_cases h2:t.index≥g.length
   ·simp [h2] at h0
   ·rw [if_neg h2];have:=(shape_index hsh).1;exact hg _ (at0_mem (by omega))
  ·simp only[h1,if_false] at h0 ⊢
   by_cases h2:t.kind=2
   ·simp only[h2,if_true] at h0 ⊢
    by_cases h3:(Tm.infs (g++[t.ty]) t.args).2=0
    ·simp only[h3,ne_eq,not_true_eq_false,if_false] at h0 ⊢;exact okT_good h0
    ·rw [if_pos h3] at h0;exact absurd h0 h3
   ·simp only[h2,if_false] at h0 ⊢
    by_cases h3:(Tm.infs g t.args).2=0
    ·simp only[h3,ne_eq,not_true_eq_false,if_false] at h0 ⊢
     have h4:=Tm.infs_all g t.args h3
     have h5:=Tm.infs_ok g t.args h4
     rw[h5] at h0 ⊢
     refine rule_good (by rw[arK_len hsh];simp) ?_ (shape_ty hsh) h0
     intro x hx
     obtain⟨y,hy,rfl⟩:=List.mem_map.1 hx
     exact ih y hy g (shape_args hsh y hy) hg (h4 y hy)
    ·rw [if_pos h3] at h0;exact absurd h0 h3
theorem shape_zero{t:Ty}(h:t.shape=true)(hk:t.kind=1∨t.kind=2∨t.kind=5):t.args=[]:=by
 rw[Ty.shape_eq,Bool.and_eq_true] at h
 have h1:arT t.kind=some 0:=by rcases hk with hk|hk|hk<;>rw[hk]<;>rfl
 have h2:=h.1
 rw[h1] at h2
 simp at h2
 exact h2
theorem shape_kind{t:Ty}(h:t.shape=true):t.kind=1∨t.kind=2∨t.kind=5∨t.kind=3∨t.kind=4:=by
 rw[Ty.shape_eq,Bool.and_eq_true] at h
 have h2:=h.1
 split at h2
 ·rename_i n hn
  simp only[arT] at hn
  split at hn
  ·omega
  ·split at hn
   ·omega
   ·cases hn
 ·cases h2
theorem shape_cases{t:Ty}(h:t.shape=true):t=natT∨t=listT∨t=unitT∨∃a b,a.shape=true∧b.shape=true∧(t=twoT a b∨t=funT a b):=by
 have h0:=h
 rw[Ty.shape_eq,Bool.and_eq_true] at h0
 rcases shape_kind h with hk|hk|hk|hk|hk
 ·exact .inl ((Ty.eq_iff _ _).2 ⟨hk,shape_zero h (by omega)⟩)
 ·exact .inr (.inl ((Ty.eq_iff _ _).2 ⟨hk,shape_zero h (by omega)⟩))
 ·exact .inr (.inr (.inl ((Ty.eq_iff _ _).2 ⟨hk,shape_zero h (by omega)⟩)))
 ·obtain ⟨a,b,hab⟩:=Ty.args_two h (.inl hk)
  have:=List.all_eq_true.1 h0.2
  rw[hab] at this
  exact .inr (.inr (.inr ⟨a,b,this a (by simp),this b (by simp),.inl ((Ty.eq_iff _ _).2 ⟨hk,hab⟩)⟩))
 ·obtain ⟨a,b,hab⟩:=Ty.args_two h (.inr hk)
  have:=List.all_eq_true.1 h0.2
  rw[hab] at this
  exact .inr (.inr (.inr ⟨a,b,this a (by simp),this b (by simp),.inr ((Ty.eq_iff _ _).2 ⟨hk,hab⟩)⟩))
theorem two_size(a b:Ty):(twoT a b).size=1+(a.size+b.size):=by simp[twoT,Ty.size,Ty.sizes]
theorem fun_size(a b:Ty):(funT a b).size=1+(a.size+b.size):=by simp[funT,Ty.size,Ty.sizes]
theorem small_cases{t:Ty}(h:t.small):t=natT∨t=listT∨t=unitT∨∃a b,a.shape=true∧b.shape=true∧a.size=1∧b.size=1∧(t=twoT a b∨t=funT a b):=by
 obtain⟨h1,h2⟩:=h
 rcases shape_cases h1 with h3|h3|h3|⟨a,b,ha,hb,h3⟩
 ·exact .inl h3
 ·exact .inr (.inl h3)
 ·exact .inr (.inr (.inl h3))
 ·have pa:=a.size_pos
  have pb:=b.size_pos
  refine .inr (.inr (.inr ⟨a,b,ha,hb,?_,?_,h3⟩))<;>rcases h3 with rfl|rfl<;>(first|rw[two_size] at h2|rw[fun_size] at h2)<;>omega
theorem small_one{t:Ty}(h:t.shape=true)(h1:t.size=1):t.small:=⟨h,by omega⟩
theorem small_nat:natT.small:=⟨rfl,by decide⟩
theorem small_list:listT.small:=⟨rfl,by decide⟩
theorem smalls_app{g l:List Ty}(h:smalls g)(h1:smalls l):smalls (g++l):=fun t ht=>by
 rcases List.mem_append.1 ht with ht|ht
 ·exact h t ht
 ·exact h1 t ht
theorem smalls_cons{t:Ty}{l:List Ty}(h:t.small)(h1:smalls l):smalls (t::l):=fun x hx=>by
 rcases List.mem_cons.1 hx with rfl|hx
 ·exact h
 ·exact h1 x hx
theorem smalls_nil:smalls []:=fun t ht=>by cases ht
theorem smalls_at{g:List Ty}(h:smalls g){i:Nat}(hi:i<g.length):(at0 g (g.length-1-i)).small:=h _ (at0_mem (by omega))
theorem Dk.type0(d:Dk):(d.type 0).1.shape=true∧(d.type 0).1.size=1:=by
 simp only[Dk.type];(repeat' split)<;>exact⟨rfl,rfl⟩
theorem numOf_lt(d:Dk):∃m,m<3∧numOf (d.next 3).1=numT m:=by
 have h:=Dk.next_bd d 3 (by omega)
 refine⟨(d.next 3).1.toNat,by omega,?_⟩
 rw[numOf,if_pos (by omega)]
theorem varsT_mem{g:List Ty}{t:Ty}{i:Int}(h:i∈varsT g t):∃j:Nat,i=j∧j<g.length∧at0 g (g.length-1-j)=t:=by
 simp only[varsT,List.mem_map,List.mem_filter,List.mem_range,decide_eq_true_eq] at h
 obtain⟨j,⟨h1,h2⟩,rfl⟩:=h
 refine⟨j,rfl,h1,?_⟩
 simp only[at0,List.getD_eq_getElem?_getD,h2,Option.getD_some]
theorem varsT_pick{g:List Ty}{t:Ty}(d:Dk)(h:¬varsT g t=[]):∃j:Nat,(varsT g t).getD (d.next (varsT g t).length).1.toNat 0=j∧j<g.length∧at0 g (g.length-1-j)=t:=by
 have hl:0<(varsT g t).length:=List.length_pos_iff.2 h
 have hb:=Dk.next_bd d (varsT g t).length (by omega)
 have hlt:(d.next (varsT g t).length).1.toNat<(varsT g t).length:=by omega
 have:(varsT g t).getD (d.next (varsT g t).length).1.toNat 0∈varsT g t:=by
  rw[List.getD_eq_getElem?_getD,List.getElem?_eq_getElem hlt]
  exact List.getElem_mem hlt
 exact varsT_mem this
theorem findF_some{g:List Ty}{t:Ty}{i:Nat}(h:findF g t=some i):i<g.length∧isFn g t i=true:=by
 have:=List.find?_some h
 have h2:=List.mem_of_find?_eq_some h
 exact⟨by simpa using h2,this⟩
theorem isFn_fun{g:List Ty}{t:Ty}{i:Nat}(hg:smalls g)(hi:i<g.length)(h:isFn g t i=true):∃s,s.shape=true∧s.size=1∧at0 g (g.length-1-i)=funT s t:=by
 simp only[isFn,Bool.and_eq_true,beq_iff_eq,decide_eq_true_eq] at h
 have hs:=smalls_at hg hi
 rcases small_cases hs with h3|h3|h3|⟨a,b,ha,hb,h1,h2,h3|h3⟩
 ·rw [h3] at h;exact absurd h.1 (by decide)
 ·rw [h3] at h;exact absurd h.1 (by decide)
 ·rw [h3] at h;exact absurd h.1 (by decide)
 ·rw [h3] at h;exact absurd h.1 (by simp[twoT])
 ·refine ⟨a,ha,h1,?_⟩
  have:=h.2
  rw[h3] at this ⊢
  simp only[funT,Ty.args_mk,at0_cons1] at this
  rw[this]
abbrev RecMk(rec:MkF)(n:Nat):Prop:=∀d g t,smalls g→t.small→1≤n→(n=1→t.size=1)→Mk n g t (rec d g t).1
theorem Dk.fin_mk{rec:MkF}{n:Nat}{pos:Bool}{d:Dk}{g:List Ty}{t:Ty}(H:RecMk rec n)(hp:pos=true→2≤n)(hg:smalls g)(ht:t.small)(h0:n=0→t.size=1):Mk (n+1) g t (d.fin rec pos g t).1:=by
 rcases small_cases ht with rfl|rfl|rfl|⟨a,b,ha,hb,h1,h2,rfl|rfl⟩
 ·unfold Dk.fin
  rw[if_pos (show natT.kind=1 from rfl)]
  by_cases hpos:pos=true
  ·have hn:=hp hpos
   have hr:∀d,Mk n g natT (rec d g natT).1:=fun d=>H d g natT hg small_nat (by omega) (by omega)
   rw[if_pos hpos]
   split
   ·exact .succ n g _ hn (hr _)
   ·split
    ·exact .plus n g _ _ hn (hr _) (hr _)
    ·split
     ·exact .sub n g _ _ hn (hr _) (hr _)
     ·obtain ⟨m,hm,e⟩:=numOf_lt (d.next 5).2
      simp only[e]
      exact .num n g m hm
  ·rw [if_neg hpos]
   obtain⟨m,hm,e⟩:=numOf_lt d
   simp only[e]
   exact .num n g m hm
 ·unfold Dk.fin
  rw[if_neg (by decide),if_pos (show listT.kind=2 from rfl)]
  by_cases hpos:pos=true
  ·have hn:=hp hpos
   rw[if_pos hpos]
   split
   ·exact .cons n g _ _ hn (H _ g natT hg small_nat (by omega) (by omega)) (H _ g listT hg small_list (by omega) (by omega))
   ·exact .nil n g
  ·rw [if_neg hpos];exact .nil n g
 ·unfold Dk.fin
  rw[if_neg (by decide),if_neg (by decide),if_neg (by decide),if_neg (by decide)]
  exact .unit n g
 ·unfold Dk.fin
  rw[if_neg (by simp[twoT]),if_neg (by simp[twoT]),if_pos (show(twoT a b).kind=3 from rfl)]
  have:n≠0:=fun h=>by have:=h0 h;rw[two_size] at this;omega
  exact .pair n g a b _ _ h1 h2 (H _ g a hg (small_one ha h1) (by omega) fun _=>h1) (H _ g b hg (small_one hb h2) (by omega) fun _=>h2)
 ·unfold Dk.fin
  rw[if_neg (by simp[funT]),if_neg (by simp[funT]),if_neg (by simp[funT]),if_pos (show(funT a b).kind=4 from rfl)]
  have:n≠0:=fun h=>by have:=h0 h;rw[fun_size] at this;omega
  exact .lam n g a b _ h1 h2 (H _ (g++[a]) b (smalls_app hg (smalls_cons (small_one ha h1) smalls_nil)) (small_one hb h2) (by omega) fun _=>h2)
theorem Dk.mid_mk{rec:MkF}{n:Nat}{pos:Bool}{d:Dk}{g:List Ty}{t:Ty}(H:RecMk rec n)(hp:pos=true→2≤n)(hg:smalls g)(ht:t.small)(h0:n=0→t.size=1):Mk (n+1) g t (d.mid rec pos g t).1:=by
 unfold Dk.mid Dk.m0 Dk.m1 Dk.m2 Dk.m3 Dk.m4 Dk.m5
 by_cases hpos:pos=true
 ·have hn:=hp hpos
  have hs:=Dk.type0 (d.next 8).2
  have hss:=small_one hs.1 hs.2
  rw[if_pos hpos]
  split
  ·exact .app n g t _ _ _ hn hs.1 hs.2 (H _ _ _ (smalls_app hg (smalls_cons hss smalls_nil)) ht (by omega) (by omega)) (H _ _ _ hg hss (by omega) (by omega))
  ·split
   ·exact .fst n g t _ _ _ hn hs.1 hs.2 (H _ _ _ hg ht (by omega) (by omega)) (H _ _ _ hg hss (by omega) (by omega))
   ·split
    ·obtain ⟨m,hm,e⟩:=numOf_lt (rec (rec (d.next 8).2 (g++[natT,t]) t).2 g t).2
     simp only[e]
     exact .recu n g t _ _ m hn hm (H _ _ _ (smalls_app hg (smalls_cons small_nat (smalls_cons ht smalls_nil))) ht (by omega) (by omega)) (H _ _ _ hg ht (by omega) (by omega))
    ·split
     ·exact .fold n g t _ _ _ hn (H _ _ _ (smalls_app hg (smalls_cons small_nat (smalls_cons small_list (smalls_cons ht smalls_nil)))) ht (by omega) (by omega)) (H _ _ _ hg ht (by omega) (by omega)) (H _ _ _ hg small_list (by omega) (by omega))
     ·split
      ·exact .snd n g t _ _ _ hn hs.1 hs.2 (H _ _ _ hg hss (by omega) (by omega)) (H _ _ _ hg ht (by omega) (by omega))
      ·split
       ·split
        ·rename_i i hi
         obtain⟨h1,h2⟩:=findF_some hi
         obtain⟨s,h3,h4,h5⟩:=isFn_fun hg h1 h2
         simp only[h5,funT,Ty.args_mk,at0_cons0]
         exact .ctx n g t s _ hn i h1 h5 h4 (H _ _ _ hg (small_one h3 h4) (by omega) (by omega))
        ·exact Dk.fin_mk H hp hg ht h0
       ·exact Dk.fin_mk H hp hg ht h0
 ·rw [if_neg hpos];exact Dk.fin_mk H hp hg ht h0
theorem Dk.gen_mk{rec:MkF}{n:Nat}{pos:Bool}{d:Dk}{g:List Ty}{t:Ty}(H:RecMk rec n)(hp:pos=true→2≤n)(hg:smalls g)(ht:t.small)(h0:n=0→t.size=1):Mk (n+1) g t (d.gen rec pos g t).1:=by
 unfold Dk.gen
 split
 ·exact Dk.mid_mk H hp hg ht h0
 ·rename_i hl
  split
  ·obtain ⟨j,e,h1,h2⟩:=varsT_pick (d.next 3).2 hl
   simp only[e]
   exact .var n g t j h1 h2
  ·exact Dk.mid_mk H hp hg ht h0
theorem Dk.tm_mk:∀n,RecMk (Dk.tm n) n
 |0=>fun d g t _ _ h _=>by omega
 |n+1=>fun d g t hg ht _ h1=>Dk.gen_mk (Dk.tm_mk n) (by simp) hg ht (by omega)
theorem numT_full:∀m,(numT m).full=2*(m+1)
 |0=>rfl
 |m+1=>by simp[numT,Tm.full,Tm.fulls,numT_full m,Ty.size,Ty.sizes];omega
theorem Mk.full{n:Nat}{g:List Ty}{t:Ty}{x:Tm}(h:Mk n g t x):smalls g→t.small→x.full+20≤20*3^n:=by
 have e1:noTy.size=1:=rfl
 have e2:(Ty.mk 0 []).size=1:=rfl
 have p:∀n,1≤3^n:=fun n=>Nat.one_le_pow _ _ (by omega)
 have q:∀n,3^(n+1)=3*3^n:=fun n=>by rw[Nat.pow_succ];omega
 induction h with
 |var n g t i hi h=>intro hg ht;have:=p n;have:=q n;simp[vT,Tm.full,Tm.fulls,e2];omega
 |app n g t s a b hn hs h1 ha hb iha ihb=>
  intro hg ht
  have:=iha (smalls_app hg (smalls_cons (small_one hs h1) smalls_nil)) ht
  have:=ihb hg (small_one hs h1)
  have:=p n;have:=q n
  simp[apT,lmT,Tm.full,Tm.fulls,e2,h1];omega
 |fst n g t s a b hn hs h1 ha hb iha ihb=>
  intro hg ht
  have:=iha hg ht
  have:=ihb hg (small_one hs h1)
  have:=p n;have:=q n
  simp[nT,Tm.full,Tm.fulls,e2];omega
 |snd n g t s a b hn hs h1 ha hb iha ihb=>
  intro hg ht
  have:=iha hg (small_one hs h1)
  have:=ihb hg ht
  have:=p n;have:=q n
  simp[nT,Tm.full,Tm.fulls,e2];omega
 |recu n g t a b m hn hm ha hb iha ihb=>
  intro hg ht
  have:=iha (smalls_app hg (smalls_cons small_nat (smalls_cons ht smalls_nil))) ht
  have:=ihb hg ht
  have:=ht.2
  have:=p n;have:=q n
  have e3:natT.size=1:=rfl
  simp[hT,lmT,Tm.full,Tm.fulls,e3,numT_full];omega
 |fold n g t a b c hn ha hb hc iha ihb ihc=>
  intro hg ht
  have:=iha (smalls_app hg (smalls_cons small_nat (smalls_cons small_list (smalls_cons ht smalls_nil)))) ht
  have:=ihb hg ht
  have:=ihc hg small_list
  have:=ht.2
  have:=p n;have:=q n
  have e3:natT.size=1:=rfl
  have e4:listT.size=1:=rfl
  simp[hT,lmT,Tm.full,Tm.fulls,e3,e4];omega
 |ctx n g t s a hn i hi h h1 ha iha=>
  intro hg ht
  have hs:s.shape=true:=by
   have:=smalls_at hg hi
   rw[h] at this
   have:=List.all_eq_true.1 ((Bool.and_eq_true _ _).mp ((Ty.shape_eq _).symm.trans this.1)).2 s (by simp[funT])
   exact this
  have:=iha hg (small_one hs h1)
  have:=p n;have:=q n
  simp[apT,vT,Tm.full,Tm.fulls,e2];omega
 |succ n g a hn ha iha=>intro hg ht;have:=iha hg small_nat;have:=p n;have:=q n;simp[sT,Tm.full,Tm.fulls,e2];omega
 |plus n g a b hn ha hb iha ihb=>
  intro hg ht
  have:=iha hg small_nat
  have:=ihb hg small_nat
  have:=p n;have:=q n
  have e5:plusT.full≤18:=by decide
  simp[apT,Tm.full,Tm.fulls,e2];omega
 |sub n g a b hn ha hb iha ihb=>
  intro hg ht
  have:=iha hg small_nat
  have:=ihb hg small_nat
  have:=p n;have:=q n
  have e5:subT.full≤36:=by decide
  simp[apT,Tm.full,Tm.fulls,e2];omega
 |num n g m hm=>intro hg ht;have:=p n;have:=q n;rw[numT_full];omega
 |cons n g a b hn ha hb iha ihb=>
  intro hg ht
  have:=iha hg small_nat
  have:=ihb hg small_list
  have:=p n;have:=q n
  simp[nT,Tm.full,Tm.fulls,e2];omega
 |nil n g=>intro hg ht;have:=p n;have:=q n;simp[nT,Tm.full,Tm.fulls,e2];omega
 |pair n g s t a b h1 h2 ha hb iha ihb=>
  intro hg ht
  have hs:=List.all_eq_true.1 ((Bool.and_eq_true _ _).mp ((Ty.shape_eq _).symm.trans ht.1)).2
  have:=iha hg (small_one (hs s (by simp[twoT])) h1)
  have:=ihb hg (small_one (hs t (by simp[twoT])) h2)
  have:=p n;have:=q n
  simp[nT,Tm.full,Tm.fulls,e2];omega
 |lam n g s t a h1 h2 ha iha=>
  intro hg ht
  have hs:=List.all_eq_true.1 ((Bool.and_eq_true _ _).mp ((Ty.shape_eq _).symm.trans ht.1)).2
  have:=iha (smalls_app hg (smalls_cons (small_one (hs s (by simp[funT])) h1) smalls_nil)) (small_one (hs t (by simp[funT])) h2)
  have:=p n;have:=q n
  simp[lmT,Tm.full,Tm.fulls,h1];omega
 |unit n g=>intro hg ht;have:=p n;have:=q n;simp[nT,Tm.full,Tm.fulls,e2];omega
theorem two_args_shape{k:Int}{a b:Ty}(h:(Ty.mk k [a,b]).shape=true):a.shape=true∧b.shape=true:=by
 have hs:=List.all_eq_true.1 ((Bool.and_eq_true _ _).mp ((Ty.shape_eq _).symm.trans h)).2
 exact⟨hs a (by simp),hs b (by simp)⟩
theorem Mk.ind{P:Nat→List Ty→Ty→Tm→Prop}
 (var:∀n g t (i:Nat),i<g.length→at0 g (g.length-1-i)=t→smalls g→t.small→P (n+1) g t (vT i))
 (app:∀n g t s a b,2≤n→s.shape=true→s.size=1→smalls g→t.small→P n (g++[s]) t a→P n g s b→P (n+1) g t (apT (lmT s a) b))
 (fst:∀n g t s a b,2≤n→s.shape=true→s.size=1→smalls g→t.small→P n g t a→P n g s b→P (n+1) g t (nT 11 [nT 10 [a,b]]))
 (snd:∀n g t s a b,2≤n→s.shape=true→s.size=1→smalls g→t.small→P n g s a→P n g t b→P (n+1) g t (nT 12 [nT 10 [a,b]]))
 (recu:∀n g t a b m,2≤n→m<3→smalls g→t.small→P n (g++[natT,t]) t a→P n g t b→P (n+1) g t (hT 6 t [b,lmT natT (lmT t a),numT m]))
 (fold:∀n g t a b c,2≤n→smalls g→t.small→P n (g++[natT,listT,t]) t a→P n g t b→P n g listT c→P (n+1) g t (hT 9 t [b,lmT natT (lmT listT (lmT t a)),c]))
 (ctx:∀n g t s a (i:Nat),2≤n→i<g.length→at0 g (g.length-1-i)=funT s t→s.shape=true→s.size=1→smalls g→t.small→P n g s a→P (n+1) g t (apT (vT i) a))
 (succ:∀n g a,2≤n→smalls g→P n g natT a→P (n+1) g natT (sT a))
 (plus:∀n g a b,2≤n→smalls g→P n g natT a→P n g natT b→P (n+1) g natT (apT (apT plusT a) b))
 (sub:∀n g a b,2≤n→smalls g→P n g natT a→P n g natT b→P (n+1) g natT (apT (apT subT a) b))
 (num:∀n g m,m<3→smalls g→P (n+1) g natT (numT m))
 (cons:∀n g a b,2≤n→smalls g→P n g natT a→P n g listT b→P (n+1) g listT (nT 8 [a,b]))
 (nil:∀n g,smalls g→P (n+1) g listT (nT 7 []))
 (pair:∀n g s t a b,s.shape=true→t.shape=true→s.size=1→t.size=1→1≤n→smalls g→P n g s a→P n g t b→P (n+1) g (twoT s t) (nT 10 [a,b]))
 (lam:∀n g s t a,s.shape=true→t.shape=true→s.size=1→t.size=1→1≤n→smalls g→P n (g++[s]) t a→P (n+1) g (funT s t) (lmT s a))
 (unit:∀n g,smalls g→P (n+1) g unitT (nT 13 []))
 {n:Nat} {g:List Ty} {t:Ty} {x:Tm} (h:Mk n g t x):smalls g→t.small→P n g t x:=by
 have one:∀{n g t x},Mk n g t x→1≤n:=fun h=>by cases h<;>omega
 induction h with
 |var n g t i hi h=>exact fun hg ht=>var n g t i hi h hg ht
 |app n g t s a b hn hs h1 ha hb iha ihb=>exact fun hg ht=>app n g t s a b hn hs h1 hg ht (iha (smalls_app hg (smalls_cons (small_one hs h1) smalls_nil)) ht) (ihb hg (small_one hs h1))
 |fst n g t s a b hn hs h1 ha hb iha ihb=>exact fun hg ht=>fst n g t s a b hn hs h1 hg ht (iha hg ht) (ihb hg (small_one hs h1))
 |snd n g t s a b hn hs h1 ha hb iha ihb=>exact fun hg ht=>snd n g t s a b hn hs h1 hg ht (iha hg (small_one hs h1)) (ihb hg ht)
 |recu n g t a b m hn hm ha hb iha ihb=>exact fun hg ht=>recu n g t a b m hn hm hg ht (iha (smalls_app hg (smalls_cons small_nat (smalls_cons ht smalls_nil))) ht) (ihb hg ht)
 |fold n g t a b c hn ha hb hc iha ihb ihc=>exact fun hg ht=>fold n g t a b c hn hg ht (iha (smalls_app hg (smalls_cons small_nat (smalls_cons small_list (smalls_cons ht smalls_nil)))) ht) (ihb hg ht) (ihc hg small_list)
 |ctx n g t s a hn i hi h h1 ha iha=>
  intro hg ht
  have hs:s.shape=true:=by
   have:=smalls_at hg hi
   rw[h] at this
   exact(two_args_shape this.1).1
  exact ctx n g t s a i hn hi h hs h1 hg ht (iha hg (small_one hs h1))
 |succ n g a hn ha iha=>exact fun hg ht=>succ n g a hn hg (iha hg small_nat)
 |plus n g a b hn ha hb iha ihb=>exact fun hg ht=>plus n g a b hn hg (iha hg small_nat) (ihb hg small_nat)
 |sub n g a b hn ha hb iha ihb=>exact fun hg ht=>sub n g a b hn hg (iha hg small_nat) (ihb hg small_nat)
 |num n g m hm=>exact fun hg ht=>num n g m hm hg
 |cons n g a b hn ha hb iha ihb=>exact fun hg ht=>cons n g a b hn hg (iha hg small_nat) (ihb hg small_list)
 |nil n g=>exact fun hg ht=>nil n g hg
 |pair n g s t a b h1 h2 ha hb iha ihb=>exact fun hg ht=>have hs:=two_args_shape ht.1;pair n g s t a b hs.1 hs.2 h1 h2 (one ha) hg (iha hg (small_one hs.1 h1)) (ihb hg (small_one hs.2 h2))
 |lam n g s t a h1 h2 ha iha=>exact fun hg ht=>have hs:=two_args_shape ht.1;lam n g s t a hs.1 hs.2 h1 h2 (one ha) hg (iha (smalls_app hg (smalls_cons (small_one hs.1 h1) smalls_nil)) (small_one hs.2 h2))
 |unit n g=>exact fun hg ht=>unit n g hg
@[simp] theorem funT_kind(a b:Ty):(funT a b).kind=4:=rfl
@[simp] theorem funT_args(a b:Ty):(funT a b).args=[a,b]:=rfl
@[simp] theorem twoT_kind(a b:Ty):(twoT a b).kind=3:=rfl
@[simp] theorem twoT_args(a b:Ty):(twoT a b).args=[a,b]:=rfl
theorem okT_ok{t:Ty}(h:t.err=0):okT t=(t,0):=if_pos h
theorem small_err{t:Ty}(h:t.small):t.err=0:=(Ty.err_iff t).2 ⟨h.1,by have:=h.2;omega⟩
theorem fun_shape{a b:Ty}(ha:a.shape=true)(hb:b.shape=true):(funT a b).shape=true:=by simp[Ty.shape_eq (funT a b),ha,hb,arT]
theorem two_shape{a b:Ty}(ha:a.shape=true)(hb:b.shape=true):(twoT a b).shape=true:=by simp[Ty.shape_eq (twoT a b),ha,hb,arT]
theorem fun_err{a b:Ty}(ha:a.shape=true)(hb:b.shape=true)(h:a.size+b.size≤60):(funT a b).err=0:=(Ty.err_iff _).2 ⟨fun_shape ha hb,by rw[fun_size];omega⟩
theorem two_err{a b:Ty}(ha:a.shape=true)(hb:b.shape=true)(h:a.size+b.size≤60):(twoT a b).err=0:=(Ty.err_iff _).2 ⟨two_shape ha hb,by rw[two_size];omega⟩
def look(g:List Ty)(i:Nat):Ty:=at0 g (g.length-1-i)
theorem inf_var(g:List Ty)(i:Nat)(h:i<g.length):(vT i).inf g=(look g i,0):=by
 rw[Tm.inf_eq]
 have h1:¬((i:Int)≥(g.length:Int)):=by omega
 simp[vT,h1,look]
theorem look_last(g:List Ty)(a:Ty):look (g++[a]) 0=a:=by simp[look,at0]
theorem look_succ(g:List Ty)(a:Ty)(i:Nat)(h:i<g.length):look (g++[a]) (i+1)=look g i:=by
 have e:g.length+1-1-(i+1)=g.length-1-i:=by omega
 simp only[look,at0,List.length_append,List.length_cons,List.length_nil,Nat.zero_add,e,List.getD_eq_getElem?_getD]
 rw[List.getElem?_append_left (by omega)]
theorem inf_v0(g:List Ty)(a:Ty):(vT 0).inf (g++[a])=(a,0):=by
 have:=inf_var (g++[a]) 0 (by simp)
 rw[look_last] at this;exact this
theorem inf_v1(g:List Ty)(a b:Ty):(vT 1).inf (g++[a]++[b])=(a,0):=by
 have:=inf_var (g++[a]++[b]) 1 (by simp)
 rw[look_succ (g++[a]) b 0 (by simp),look_last] at this;exact this
theorem inf_lam{g:List Ty}{s t:Ty}{x:Tm}(h:x.inf (g++[s])=(t,0))(he:(funT s t).err=0):(lmT s x).inf g=(funT s t,0):=by
 rw[Tm.inf_eq];simp[lmT,Tm.infs,h,okT_ok he]
theorem inf_app{g:List Ty}{s t:Ty}{f x:Tm}(hf:f.inf g=(funT s t,0))(hx:x.inf g=(s,0)):(apT f x).inf g=(t,0):=by
 rw[Tm.inf_eq];simp[apT,Tm.infs,hf,hx,rule]
theorem inf_succ{g:List Ty}{x:Tm}(h:x.inf g=(natT,0)):(sT x).inf g=(natT,0):=by
 rw[Tm.inf_eq];simp[sT,Tm.infs,h,rule]
theorem inf_zero(g:List Ty):zT.inf g=(natT,0):=by
 rw[Tm.inf_eq];simp[zT,Tm.infs,rule]
theorem inf_num(g:List Ty):∀m,(numT m).inf g=(natT,0)
 |0=>inf_zero g
 |m+1=>inf_succ (inf_num g m)
theorem inf_rec{g:List Ty}{t:Ty}{b f x:Tm}(hb:b.inf g=(t,0))(hf:f.inf g=(funT natT (funT t t),0))(hx:x.inf g=(natT,0)):(hT 6 t [b,f,x]).inf g=(t,0):=by
 rw[Tm.inf_eq];simp[hT,Tm.infs,hb,hf,hx,rule]
theorem inf_fold{g:List Ty}{t:Ty}{b f x:Tm}(hb:b.inf g=(t,0))(hf:f.inf g=(funT natT (funT listT (funT t t)),0))(hx:x.inf g=(listT,0)):(hT 9 t [b,f,x]).inf g=(t,0):=by
 rw[Tm.inf_eq];simp[hT,Tm.infs,hb,hf,hx,rule]
theorem inf_pair{g:List Ty}{s t:Ty}{a b:Tm}(ha:a.inf g=(s,0))(hb:b.inf g=(t,0))(he:(twoT s t).err=0):(nT 10 [a,b]).inf g=(twoT s t,0):=by
 rw[Tm.inf_eq];simp[nT,Tm.infs,ha,hb,rule,okT_ok he]
theorem inf_fst{g:List Ty}{s t:Ty}{x:Tm}(h:x.inf g=(twoT s t,0)):(nT 11 [x]).inf g=(s,0):=by
 rw[Tm.inf_eq];simp[nT,Tm.infs,h,rule]
theorem inf_snd{g:List Ty}{s t:Ty}{x:Tm}(h:x.inf g=(twoT s t,0)):(nT 12 [x]).inf g=(t,0):=by
 rw[Tm.inf_eq];simp[nT,Tm.infs,h,rule]
theorem inf_cons{g:List Ty}{a b:Tm}(ha:a.inf g=(natT,0))(hb:b.inf g=(listT,0)):(nT 8 [a,b]).inf g=(listT,0):=by
 rw[Tm.inf_eq];simp[nT,Tm.infs,ha,hb,rule]
theorem nat_fun_err{a:Ty}(ha:a.shape=true)(h:a.size≤30):(funT natT a).err=0:=fun_err rfl ha (by have:natT.size=1:=rfl;omega)
theorem inf_plus(g:List Ty):plusT.inf g=(funT natT (funT natT natT),0):=by
 refine inf_lam (s:=natT) (inf_lam (s:=natT) (inf_rec (t:=natT) (inf_v1 g natT natT) (inf_lam (s:=natT) (inf_lam (s:=natT) (inf_succ (inf_v0 _ _)) rfl) rfl) (inf_v0 _ _)) rfl) rfl
theorem inf_pred(g:List Ty):predT.inf g=(funT natT natT,0):=by
 refine inf_lam (s:=natT) (inf_rec (t:=natT) (inf_zero _) (inf_lam (s:=natT) (inf_lam (s:=natT) (inf_v1 _ natT natT) rfl) rfl) (inf_v0 _ _)) rfl
theorem inf_sub(g:List Ty):subT.inf g=(funT natT (funT natT natT),0):=by
 refine inf_lam (s:=natT) (inf_lam (s:=natT) (inf_rec (t:=natT) (inf_v1 g natT natT) (inf_lam (s:=natT) (inf_lam (s:=natT) (inf_app (inf_pred _) (inf_v0 _ _)) rfl) rfl) (inf_v0 _ _)) rfl) rfl
theorem Mk.inf{n:Nat}{g:List Ty}{t:Ty}{x:Tm}(h:Mk n g t x)(hg:smalls g)(ht:t.small):x.inf g=(t,0):=by
 refine Mk.ind (P:=fun n g t x=>x.inf g=(t,0)) ?_ ?_ ?_ ?_ ?_ ?_ ?_ ?_ ?_ ?_ ?_ ?_ ?_ ?_ ?_ ?_ h hg ht
 ·intro n g t i hi h _ _;rw[inf_var g i hi];rw[←h];rfl
 ·intro n g t s a b _ hs h1 _ ht ha hb;exact inf_app (inf_lam ha (fun_err hs ht.1 (by have:=ht.2;omega))) hb
 ·intro n g t s a b _ hs h1 _ ht ha hb;exact inf_fst (inf_pair ha hb (two_err ht.1 hs (by have:=ht.2;omega)))
 ·intro n g t s a b _ hs h1 _ ht ha hb;exact inf_snd (inf_pair ha hb (two_err hs ht.1 (by have:=ht.2;omega)))
 ·intro n g t a b m _ _ _ ht ha hb
  have h2:=ht.2
  refine inf_rec hb (inf_lam (inf_lam (by rw[List.append_assoc];exact ha) (fun_err ht.1 ht.1 (by omega))) (nat_fun_err (fun_shape ht.1 ht.1) (by rw[fun_size];omega))) (inf_num g m)
 ·intro n g t a b c _ _ ht ha hb hc
  have h2:=ht.2
  have e1:listT.size=1:=rfl
  refine inf_fold hb (inf_lam (inf_lam (inf_lam (by rw[List.append_assoc,List.append_assoc];exact ha) (fun_err ht.1 ht.1 (by omega))) (fun_err rfl (fun_shape ht.1 ht.1) (by rw[fun_size];omega))) (nat_fun_err (fun_shape rfl (fun_shape ht.1 ht.1)) (by rw[fun_size,fun_size];omega))) hc
 ·intro n g t s a i _ hi h _ _ _ _ ha;exact inf_app (s:=s) (by rw[inf_var g i hi];rw[←h];rfl) ha
 ·intro n g a _ _ ha;exact inf_succ ha
 ·intro n g a b _ _ ha hb;exact inf_app (inf_app (inf_plus g) ha) hb
 ·intro n g a b _ _ ha hb;exact inf_app (inf_app (inf_sub g) ha) hb
 ·intro n g m _ _;exact inf_num g m
 ·intro n g a b _ _ ha hb;exact inf_cons ha hb
 ·intro n g _;rw[Tm.inf_eq];simp[nT,Tm.infs,rule]
 ·intro n g s t a b hs ht h1 h2 _ _ ha hb;exact inf_pair ha hb (two_err hs ht (by omega))
 ·intro n g s t a hs ht h1 h2 _ _ ha;exact inf_lam ha (fun_err hs ht (by omega))
 ·intro n g _;rw[Tm.inf_eq];simp[nT,Tm.infs,rule]
theorem noTy_isNo:(Ty.mk 0 []).isNo=true:=rfl
theorem shape_nT{k:Int}{l:List Tm}(hk:arK k=some l.length)(ht:typedK k=false)(h:∀x∈l,x.shape=true):(nT k l).shape=true:=by
 have:l.all Tm.shape=true:=List.all_eq_true.2 h
 simp[nT,Tm.shape_eq,Tm.head,hk,ht,noTy_isNo,this]
theorem ok_of{t:Ty}(h1:t.shape=true)(h2:t.size≤64):t.ok=true:=by simp[Ty.ok,h1,h2]
theorem shape_hT{k:Int}{s:Ty}{l:List Tm}(hk:arK k=some l.length)(ht:typedK k=true)(hs:s.ok=true)(h:∀x∈l,x.shape=true):(hT k s l).shape=true:=by
 have:l.all Tm.shape=true:=List.all_eq_true.2 h
 simp[hT,Tm.shape_eq,Tm.head,hk,ht,hs,this]
theorem shape_vT(i:Int)(h:0≤i):(vT i).shape=true:=by
 have:typedK 1=false:=rfl
 simp[vT,Tm.shape_eq,Tm.head,arK,this,noTy_isNo,h]
theorem shape_num:∀m,(numT m).shape=true
 |0=>rfl
 |m+1=>shape_nT (k:=5) (l:=[numT m]) rfl rfl (by simp[shape_num m])
theorem shape_two{k:Int}{a b:Tm}(hk:arK k=some 2)(ht:typedK k=false)(ha:a.shape=true)(hb:b.shape=true):(nT k [a,b]).shape=true:=shape_nT hk ht (by simp[ha,hb])
theorem shape_one'{k:Int}{a:Tm}(hk:arK k=some 1)(ht:typedK k=false)(ha:a.shape=true):(nT k [a]).shape=true:=shape_nT hk ht (by simp[ha])
theorem shape_lm{s:Ty}{a:Tm}(hs:s.ok=true)(ha:a.shape=true):(lmT s a).shape=true:=shape_hT (k:=2) rfl rfl hs (by simp[ha])
theorem shape_h3{k:Int}{s:Ty}{a b c:Tm}(hk:arK k=some 3)(ht:typedK k=true)(hs:s.ok=true)(ha:a.shape=true)(hb:b.shape=true)(hc:c.shape=true):(hT k s [a,b,c]).shape=true:=shape_hT hk ht hs (by simp[ha,hb,hc])
theorem Mk.shape{n:Nat}{g:List Ty}{t:Ty}{x:Tm}(h:Mk n g t x)(hg:smalls g)(ht:t.small):x.shape=true:=by
 have ok:∀{t:Ty},t.small→t.ok=true:=fun h=>ok_of h.1 (by have:=h.2;omega)
 refine Mk.ind (P:=fun n g t x=>x.shape=true) ?_ ?_ ?_ ?_ ?_ ?_ ?_ ?_ ?_ ?_ ?_ ?_ ?_ ?_ ?_ ?_ h hg ht
 ·intro n g t i hi h _ _;exact shape_vT _ (by omega)
 ·intro n g t s a b _ hs h1 _ ht ha hb;exact shape_two (k:=3) rfl rfl (shape_lm (ok (small_one hs h1)) ha) hb
 ·intro n g t s a b _ hs h1 _ ht ha hb;exact shape_one' rfl rfl (shape_two rfl rfl ha hb)
 ·intro n g t s a b _ hs h1 _ ht ha hb;exact shape_one' rfl rfl (shape_two rfl rfl ha hb)
 ·intro n g t a b m _ _ _ ht ha hb;exact shape_h3 rfl rfl (ok ht) hb (shape_lm rfl (shape_lm (ok ht) ha)) (shape_num m)
 ·intro n g t a b c _ _ ht ha hb hc;exact shape_h3 rfl rfl (ok ht) hb (shape_lm rfl (shape_lm rfl (shape_lm (ok ht) ha))) hc
 ·intro n g t s a i _ hi h _ _ _ _ ha;exact shape_two (k:=3) rfl rfl (shape_vT _ (by omega)) ha
 ·intro n g a _ _ ha;exact shape_one' (k:=5) rfl rfl ha
 ·intro n g a b _ _ ha hb;exact shape_two (k:=3) rfl rfl (shape_two (k:=3) rfl rfl rfl ha) hb
 ·intro n g a b _ _ ha hb;exact shape_two (k:=3) rfl rfl (shape_two (k:=3) rfl rfl rfl ha) hb
 ·intro n g m _ _;exact shape_num m
 ·intro n g a b _ _ ha hb;exact shape_two rfl rfl ha hb
 ·intro n g _;rfl
 ·intro n g s t a b hs ht h1 h2 _ _ ha hb;exact shape_two rfl rfl ha hb
 ·intro n g s t a hs ht h1 h2 _ _ ha;exact shape_lm (ok (small_one hs h1)) ha
 ·intro n g _;rfl
def s1:Nat→Nat
 |0=>3|1=>3|2=>3|3=>24|n+4=>3*s1 (n+3)+4
def s3:Nat→Nat
 |0=>7|1=>7|2=>7|3=>24|n+4=>3*s1 (n+3)+4
theorem s1_lo:∀n,3≤n→24≤s1 n
 |0,h=>by omega
 |1,h=>by omega
 |2,h=>by omega
 |3,_=>by decide
 |n+4,_=>by have:=s1_lo (n+3) (by omega);simp only[s1];omega
theorem s3_eq:∀n,3≤n→s3 n=s1 n
 |0,h=>by omega
 |1,h=>by omega
 |2,h=>by omega
 |3,_=>rfl
 |n+4,_=>rfl
theorem s_step(n:Nat)(hn:2≤n):3*s1 n+4≤s1 (n+1)∧2*s1 n+18≤s1 (n+1)∧2*s3 n+s1 n+4≤s3 (n+1)∧s1 (n+1)≤s3 (n+1)∧3≤s1 n∧s1 n≤s3 n∧2*s3 n+6≤s3 (n+1)∧s3 n+s1 n+2≤s3 (n+1):=by
 match n,hn with
 |2,_=>decide
 |n+3,_=>
  have h1:=s1_lo (n+3) (by omega)
  have h2:=s3_eq (n+3) (by omega)
  have h3:s1 (n+3+1)=3*s1 (n+3)+4:=rfl
  have h4:s3 (n+3+1)=3*s1 (n+3)+4:=rfl
  omega
theorem s_any(n:Nat):3≤s1 n∧s1 n≤s3 n∧7≤s3 n:=by
 match n with
 |0=>decide
 |1=>decide
 |2=>decide
 |n+3=>have h1:=s1_lo (n+3) (by omega);have h2:=s3_eq (n+3) (by omega);omega
theorem s_any1(n:Nat)(hn:1≤n):2*s1 n+1≤s3 (n+1):=by
 match n,hn with
 |1,_=>decide
 |n+2,_=>have:=s_step (n+2) (by omega);have:=s_any (n+2);omega
theorem numT_size:∀m,(numT m).size=m+1
 |0=>rfl
 |m+1=>by simp[numT,Tm.size,Tm.sizes,numT_size m];omega
theorem Mk.size{n:Nat}{g:List Ty}{t:Ty}{x:Tm}(h:Mk n g t x)(hg:smalls g)(ht:t.small):x.size≤s3 n∧(t.size=1→x.size≤s1 n):=by
 have e1:natT.size=1:=rfl
 have e2:listT.size=1:=rfl
 refine Mk.ind (P:=fun n g t x=>x.size≤s3 n∧(t.size=1→x.size≤s1 n)) ?_ ?_ ?_ ?_ ?_ ?_ ?_ ?_ ?_ ?_ ?_ ?_ ?_ ?_ ?_ ?_ h hg ht
 ·intro n g t i hi h _ _;have:=s_any (n+1);simp[vT,Tm.size,Tm.sizes];omega
 ·intro n g t s a b hn hs h1 _ ht ha hb;have:=s_step n hn;have:=hb.2 h1;simp[apT,lmT,Tm.size,Tm.sizes];omega
 ·intro n g t s a b hn hs h1 _ ht ha hb;have:=s_step n hn;have:=hb.2 h1;simp[nT,Tm.size,Tm.sizes];omega
 ·intro n g t s a b hn hs h1 _ ht ha hb;have:=s_step n hn;have:=ha.2 h1;simp[nT,Tm.size,Tm.sizes];omega
 ·intro n g t a b m hn hm _ ht ha hb;have:=s_step n hn;simp[hT,lmT,Tm.size,Tm.sizes,numT_size];omega
 ·intro n g t a b c hn _ ht ha hb hc;have:=s_step n hn;have:=hc.2 e2;simp[hT,lmT,Tm.size,Tm.sizes];omega
 ·intro n g t s a i hn hi h _ h1 _ _ ha;have:=s_step n hn;have:=ha.2 h1;simp[apT,vT,Tm.size,Tm.sizes];omega
 ·intro n g a hn _ ha;have:=s_step n hn;have:=ha.2 e1;simp[sT,Tm.size,Tm.sizes];omega
 ·intro n g a b hn _ ha hb;have:=s_step n hn;have:=ha.2 e1;have:=hb.2 e1;have:plusT.size=9:=rfl;simp[apT,Tm.size,Tm.sizes];omega
 ·intro n g a b hn _ ha hb;have:=s_step n hn;have:=ha.2 e1;have:=hb.2 e1;have:subT.size=16:=rfl;simp[apT,Tm.size,Tm.sizes];omega
 ·intro n g m hm _;have:=s_any (n+1);rw[numT_size];omega
 ·intro n g a b hn _ ha hb;have:=s_step n hn;have:=ha.2 e1;have:=hb.2 e2;simp[nT,Tm.size,Tm.sizes];omega
 ·intro n g _;have:=s_any (n+1);simp[nT,Tm.size,Tm.sizes];omega
 ·intro n g s t a b hs ht h1 h2 hn _ ha hb;have:=s_any1 n hn;have:=ha.2 h1;have:=hb.2 h2;rw[two_size];simp[nT,Tm.size,Tm.sizes];omega
 ·intro n g s t a hs ht h1 h2 hn _ ha;have:=s_any1 n hn;have:=ha.2 h2;rw[fun_size];simp[lmT,Tm.size,Tm.sizes];omega
 ·intro n g _;have:=s_any (n+1);simp[nT,Tm.size,Tm.sizes];omega
def c1:Nat→Nat
 |0=>1|1=>1|2=>1|n+3=>3*c1 (n+2)
def c3:Nat→Nat
 |0=>1|1=>1|2=>2|n+3=>2*c3 (n+2)+c1 (n+2)
theorem c1_pos:∀n,1≤c1 n
 |0=>by decide
 |1=>by decide
 |2=>by decide
 |n+3=>by have:=c1_pos (n+2);simp only[c1];omega
theorem c_le:∀n,c1 n≤c3 n
 |0=>by decide
 |1=>by decide
 |2=>by decide
 |n+3=>by have:=c_le (n+2);simp only[c1,c3];omega
theorem c_step(n:Nat)(hn:2≤n):3*c1 n≤c1 (n+1)∧2*c3 n+c1 n≤c3 (n+1):=by
 match n,hn with
 |n+2,_=>exact⟨Nat.le_refl _,Nat.le_refl _⟩
theorem c_any(n:Nat)(hn:1≤n):2*c1 n≤c3 (n+1):=by
 match n,hn with
 |1,_=>decide
 |n+2,_=>have:=c_step (n+2) (by omega);have:=c_le (n+2);omega
theorem cnt_node(at_ b k i:Int)(h:Ty)(xs:List Tm)(hk:k≠1):cnt at_ ((Tm.mk k i h xs).vars b)=(xs.map fun x=>cnt at_ (x.vars (up k b))).sum:=by
 rw[Tm.vars_eq]
 simp only[Tm.kind_mk,Tm.args_mk,hk,if_false,List.nil_append]
 induction xs with
 |nil=>rfl
 |cons x l ih=>simp only[List.flatMap_cons,cnt_append,List.map_cons,List.sum_cons,ih]
theorem up_ne{k b:Int}(h:k≠2):up k b=b:=if_neg h
theorem cnt_nT(at_ b k:Int)(xs:List Tm)(hk:k≠1)(h2:k≠2):cnt at_ ((nT k xs).vars b)=(xs.map fun x=>cnt at_ (x.vars b)).sum:=by
 have:=cnt_node at_ b k 0 (.mk 0 []) xs hk
 rw[up_ne h2] at this;exact this
theorem cnt_hT(at_ b k:Int)(s:Ty)(xs:List Tm)(hk:k≠1)(h2:k≠2):cnt at_ ((hT k s xs).vars b)=(xs.map fun x=>cnt at_ (x.vars b)).sum:=by
 have:=cnt_node at_ b k 0 s xs hk
 rw[up_ne h2] at this;exact this
theorem cnt_lm(at_ b:Int)(s:Ty)(x:Tm):cnt at_ ((lmT s x).vars b)=cnt at_ (x.vars (b+1)):=by
 have:=cnt_node at_ b 2 0 s [x] (by omega)
 refine this.trans ?_
 simp[up]
theorem cnt_apT(at_ b:Int)(f x:Tm):cnt at_ ((apT f x).vars b)=cnt at_ (f.vars b)+cnt at_ (x.vars b):=by
 have:=cnt_nT at_ b 3 [f,x] (by omega) (by omega)
 refine this.trans ?_
 simp
theorem cnt_vT(at_ b i:Int):cnt at_ ((vT i).vars b)=if i-b=at_ then 1 else 0:=by
 rw[Tm.vars_eq];simp only[vT,Tm.kind_mk,Tm.index_mk,Tm.args_mk,if_true,List.flatMap_nil,List.append_nil]
 exact cnt_one at_ (i,b)
theorem cnt_num(at_ b:Int):∀m,cnt at_ ((numT m).vars b)=0
 |0=>(cnt_nT at_ b 4 [] (by omega) (by omega)).trans (by simp)
 |m+1=>(cnt_nT at_ b 5 [numT m] (by omega) (by omega)).trans (by simp[cnt_num at_ b m])
theorem cnt_plus(at_ b:Int)(hb:0≤b)(ha:0≤at_):cnt at_ (plusT.vars b)=0:=by
 have e1:plusT=lmT natT (lmT natT (hT 6 natT [vT 1,lmT natT (lmT natT (nT 5 [vT 0])),vT 0])):=rfl
 rw[e1,cnt_lm,cnt_lm,cnt_hT at_ _ 6 _ _ (by omega) (by omega)]
 simp only[List.map_cons,List.map_nil,List.sum_cons,List.sum_nil,cnt_lm,cnt_vT,cnt_nT at_ _ 5 _ (by omega) (by omega)]
 repeat rw[if_neg (by omega)]
 all_goals rfl
theorem cnt_pred(at_ b:Int)(hb:0≤b)(ha:0≤at_):cnt at_ (predT.vars b)=0:=by
 have e1:predT=lmT natT (hT 6 natT [nT 4 [],lmT natT (lmT natT (vT 1)),vT 0]):=rfl
 rw[e1,cnt_lm,cnt_hT at_ _ 6 _ _ (by omega) (by omega)]
 simp only[List.map_cons,List.map_nil,List.sum_cons,List.sum_nil,cnt_lm,cnt_vT,cnt_nT at_ _ 4 _ (by omega) (by omega)]
 repeat rw[if_neg (by omega)]
 all_goals rfl
theorem cnt_sub(at_ b:Int)(hb:0≤b)(ha:0≤at_):cnt at_ (subT.vars b)=0:=by
 have e1:subT=lmT natT (lmT natT (hT 6 natT [vT 1,lmT natT (lmT natT (apT predT (vT 0))),vT 0])):=rfl
 rw[e1,cnt_lm,cnt_lm,cnt_hT at_ _ 6 _ _ (by omega) (by omega)]
 simp only[List.map_cons,List.map_nil,List.sum_cons,List.sum_nil,cnt_lm,cnt_vT,cnt_apT]
 rw[cnt_pred at_ _ (by omega) ha]
 repeat rw[if_neg (by omega)]
 all_goals rfl
theorem Mk.cnt{n:Nat}{g:List Ty}{t:Ty}{x:Tm}(h:Mk n g t x)(hg:smalls g)(ht:t.small){at_:Int}(hat:0≤at_):∀b:Int,0≤b→cnt at_ (x.vars b)≤c3 n∧(t.size=1→cnt at_ (x.vars b)≤c1 n):=by
 have e1:natT.size=1:=rfl
 have e2:listT.size=1:=rfl
 refine Mk.ind (P:=fun n g t x=>∀b:Int,0≤b→Go.Ab.cnt at_ (x.vars b)≤c3 n∧(t.size=1→Go.Ab.cnt at_ (x.vars b)≤c1 n)) ?_ ?_ ?_ ?_ ?_ ?_ ?_ ?_ ?_ ?_ ?_ ?_ ?_ ?_ ?_ ?_ h hg ht
 ·intro n g t i hi h _ _ b hb;have:=c1_pos (n+1);have:=c_le (n+1);rw[cnt_vT];split<;>omega
 ·intro n g t s a b hn hs h1 _ ht iha ihb z hz;have:=c_step n hn;have:=iha (z+1) (by omega);have hb:=ihb z hz;have:=hb.2 h1;have:=c_le n;rw[cnt_apT,cnt_lm];omega
 ·intro n g t s a b hn hs h1 _ ht iha ihb z hz;have:=c_step n hn;have ha:=iha z hz;have hb:=ihb z hz;have:=hb.2 h1;have:=c_le n;rw[cnt_nT _ _ _ _ (by omega) (by omega)];simp only[List.map_cons,List.map_nil,List.sum_cons,List.sum_nil];rw[cnt_nT _ _ _ _ (by omega) (by omega)];simp only[List.map_cons,List.map_nil,List.sum_cons,List.sum_nil];omega
 ·intro n g t s a b hn hs h1 _ ht iha ihb z hz;have:=c_step n hn;have ha:=iha z hz;have hb:=ihb z hz;have:=ha.2 h1;have:=c_le n;rw[cnt_nT _ _ _ _ (by omega) (by omega)];simp only[List.map_cons,List.map_nil,List.sum_cons,List.sum_nil];rw[cnt_nT _ _ _ _ (by omega) (by omega)];simp only[List.map_cons,List.map_nil,List.sum_cons,List.sum_nil];omega
 ·intro n g t a b m hn hm _ ht iha ihb z hz;have:=c_step n hn;have ha:=iha (z+1+1) (by omega);have hb:=ihb z hz;have:=c_le n;rw[cnt_hT _ _ _ _ _ (by omega) (by omega)];simp only[List.map_cons,List.map_nil,List.sum_cons,List.sum_nil,cnt_lm,cnt_num];omega
 ·intro n g t a b c hn _ ht iha ihb ihc z hz;have:=c_step n hn;have ha:=iha (z+1+1+1) (by omega);have hb:=ihb z hz;have hc:=ihc z hz;have:=hc.2 e2;have:=c_le n;rw[cnt_hT _ _ _ _ _ (by omega) (by omega)];simp only[List.map_cons,List.map_nil,List.sum_cons,List.sum_nil,cnt_lm];omega
 ·intro n g t s a i hn hi h _ h1 _ _ iha z hz;have:=c_step n hn;have ha:=iha z hz;have:=ha.2 h1;have:=c_le n;have:=c1_pos n;rw[cnt_apT,cnt_vT];split<;>omega
 ·intro n g a hn _ iha z hz;have:=c_step n hn;have ha:=iha z hz;have:=ha.2 e1;have:=c_le n;have:Go.Ab.cnt at_ ((sT a).vars z)=Go.Ab.cnt at_ (a.vars z):=(cnt_nT at_ z 5 [a] (by omega) (by omega)).trans (by simp)
  omega
 ·intro n g a b hn _ iha ihb z hz;have:=c_step n hn;have ha:=iha z hz;have hb:=ihb z hz;have:=ha.2 e1;have:=hb.2 e1;have:=c_le n;rw[cnt_apT,cnt_apT,cnt_plus at_ z hz hat];omega
 ·intro n g a b hn _ iha ihb z hz;have:=c_step n hn;have ha:=iha z hz;have hb:=ihb z hz;have:=ha.2 e1;have:=hb.2 e1;have:=c_le n;rw[cnt_apT,cnt_apT,cnt_sub at_ z hz hat];omega
 ·intro n g m hm _ z hz;rw[cnt_num];omega
 ·intro n g a b hn _ iha ihb z hz;have:=c_step n hn;have ha:=iha z hz;have hb:=ihb z hz;have:=ha.2 e1;have:=hb.2 e2;have:=c_le n;rw[cnt_nT _ _ _ _ (by omega) (by omega)];simp only[List.map_cons,List.map_nil,List.sum_cons,List.sum_nil];omega
 ·intro n g _ z hz;rw[cnt_nT _ _ _ _ (by omega) (by omega)];simp
 ·intro n g s t a b hs ht h1 h2 hn _ iha ihb z hz;have:=c_any n hn;have ha:=(iha z hz).2 h1;have hb:=(ihb z hz).2 h2;rw[two_size,cnt_nT _ _ _ _ (by omega) (by omega)];simp only[List.map_cons,List.map_nil,List.sum_cons,List.sum_nil];omega
 ·intro n g s t a hs ht h1 h2 hn _ iha z hz;have:=c_any n hn;have ha:=(iha (z+1) (by omega)).2 h2;rw[fun_size,cnt_lm];omega
 ·intro n g _ z hz;rw[cnt_nT _ _ _ _ (by omega) (by omega)];simp
theorem vars_bound(t:Tm):∀(g:List Ty) (b:Int) (B:Int),(t.inf g).2=0→t.shape=true→(g.length:Int)+t.size≤B→∀p∈t.vars b,p.1<B:=by
 induction t using Tm.ind with
 |h t ih=>
  intro g b B h hs hB p hp
  rw[Tm.inf_eq] at h
  have hsz:=t.size_eq
  rw[t.vars_eq,List.mem_append] at hp
  by_cases h1:t.kind=1
  ·have hargs:t.args=[]:=by
    have:=arK_len hs
    rw[h1] at this
    exact List.eq_nil_of_length_eq_zero (Option.some.inj this).symm
   rw[if_pos h1] at h hp
   simp only[hargs,List.flatMap_nil,List.not_mem_nil,or_false,List.mem_cons,or_false] at hp
   subst hp
   by_cases h2:t.index≥(g.length:Int)
   ·rw [if_pos h2] at h;exact absurd h (by simp)
   ·have:=t.size_pos;simp only;omega
  ·rw [if_neg h1] at h hp
   simp only[List.not_mem_nil,false_or] at hp
   obtain⟨x,hx,hp⟩:=List.mem_flatMap.1 hp
   have hxs:=lsum_mem Tm.size hx
   by_cases h2:t.kind=2
   ·rw [if_pos h2] at h
    by_cases h3:(Tm.infs (g++[t.ty]) t.args).2=0
    ·exact ih x hx (g++[t.ty]) _ B (Tm.infs_all _ _ h3 x hx) (shape_args hs x hx) (by simp;omega) p hp
    ·rw [if_pos h3] at h;exact absurd h h3
   ·rw [if_neg h2] at h
    by_cases h3:(Tm.infs g t.args).2=0
    ·exact ih x hx g _ B (Tm.infs_all _ _ h3 x hx) (shape_args hs x hx) (by omega) p hp
    ·rw [if_pos h3] at h;exact absurd h h3
theorem re_var{g:Int→Int→Tm}{b:Int}{t:Tm}(h:t.kind=1):t.re g b=g t.index b:=by rw[Tm.re_eq,if_pos h]
theorem re_node{g:Int→Int→Tm}{b:Int}{t:Tm}(h:t.kind≠1):t.re g b= .mk t.kind t.index t.ty (t.args.map (Tm.re g (up t.kind b))):=by rw[Tm.re_eq,if_neg h]
theorem var_args{t:Tm}(hs:t.shape=true)(h:t.kind=1):t.args=[]:=by
 have:=arK_len hs
 rw[h] at this
 exact List.eq_nil_of_length_eq_zero (Option.some.inj this).symm
theorem vars_var{t:Tm}(hs:t.shape=true)(h:t.kind=1)(b:Int):t.vars b=[(t.index,b)]:=by rw[t.vars_eq,if_pos h,var_args hs h];rfl
theorem vars_node{t:Tm}(h:t.kind≠1)(b:Int):t.vars b=t.args.flatMap (Tm.vars (up t.kind b)):=by rw[t.vars_eq,if_neg h];rfl
theorem mem_vars{t:Tm}(h:t.kind≠1){b:Int}{x:Tm}(hx:x∈t.args){p:Int×Int}(hp:p∈x.vars (up t.kind b)):p∈t.vars b:=by
 rw[vars_node h];exact List.mem_flatMap.2 ⟨x,hx,hp⟩
theorem re_shape(g:Int→Int→Tm)(t:Tm):∀b,t.shape=true→(∀p∈t.vars b,(g p.1 p.2).shape=true)→(t.re g b).shape=true:=by
 induction t using Tm.ind with
 |h t ih=>
  intro b hs hg
  by_cases h1:t.kind=1
  ·rw [re_var h1];exact hg (t.index,b) (by rw[vars_var hs h1];simp)
  ·rw [re_node h1]
   have hs0:=hs
   rw[Tm.shape_eq,Bool.and_eq_true] at hs ⊢
   refine⟨?_,?_⟩
   ·have:=hs.1
    simp only[Tm.head,Tm.kind_mk,Tm.args_mk,Tm.index_mk,Tm.ty_mk,List.length_map] at this ⊢
    exact this
   ·simp only[Tm.args_mk]
    refine List.all_eq_true.2 fun y hy=> ?_
    obtain⟨x,hx,rfl⟩:=List.mem_map.1 hy
    exact ih x hx _ (List.all_eq_true.1 hs.2 x hx) fun p hp=>hg p (mem_vars h1 hx hp)
theorem lift_shape{fr by_:Int}{t:Tm}(b:Int)(hs:t.shape=true)(hb:0≤by_):(t.re (liftG fr by_) b).shape=true:=
 re_shape _ t b hs fun p hp=>by
  have:=t.vars_nonneg hs b p hp
  simp only[liftG];exact shape_vT _ (by split<;>omega)
theorem lift_size(fr by_:Int)(t:Tm):∀b,t.shape=true→(t.re (liftG fr by_) b).size=t.size:=by
 induction t using Tm.ind with
 |h t ih=>
  intro b hs
  by_cases h1:t.kind=1
  ·rw [re_var h1,t.size_eq,var_args hs h1];simp[liftG,Tm.size,Tm.sizes]
  ·rw [re_node h1,t.size_eq,Tm.size_eq]
   simp only[Tm.args_mk,List.map_map]
   congr 2
   exact List.map_congr_left fun x hx=>ih x hx _ (shape_args hs x hx)
theorem put_shape{at_:Int}{s t:Tm}(b:Int)(hs:s.shape=true)(ht:t.shape=true)(hb:0≤b)(ha:0≤at_)(hv:∀p∈t.vars b,0≤p.2):(t.re (putG at_ s) b).shape=true:=
 re_shape _ t b ht fun p hp=>by
  have:=t.vars_nonneg ht b p hp
  have:=hv p hp
  simp only[putG];split
  ·exact lift_shape 0 hs (by omega)
  ·exact shape_vT _ (by split<;>omega)
theorem vars_snd(t:Tm):∀b:Int,∀p∈t.vars b,b≤p.2:=by
 induction t using Tm.ind with
 |h t ih=>
  intro b p hp
  rw[t.vars_eq,List.mem_append] at hp
  rcases hp with hp|hp
  ·split at hp
   ·simp at hp;subst hp;exact Int.le_refl _
   ·cases hp
  ·obtain ⟨x,hx,hp⟩:=List.mem_flatMap.1 hp
   have:=ih x hx _ p hp
   have:b≤up t.kind b:=by simp only[up];split<;>omega
   omega
theorem put_size(at_:Int)(s t:Tm)(hs:s.shape=true):∀b,t.shape=true→(t.re (putG at_ s) b).size=t.size+cnt at_ (t.vars b)*(s.size-1):=by
 have hp:=s.size_pos
 induction t using Tm.ind with
 |h t ih=>
  intro b ht
  by_cases h1:t.kind=1
  ·rw [re_var h1,vars_var ht h1,cnt_one,t.size_eq,var_args ht h1]
   simp only[putG]
   split
   ·rw [lift_size _ _ _ _ hs];simp;omega
   ·simp [Tm.size,Tm.sizes]
  ·rw [re_node h1,t.size_eq,Tm.size_eq,vars_node h1]
   simp only[Tm.args_mk,List.map_map]
   have:∀l:List Tm,(∀x∈l,x∈t.args)→(l.map (Tm.size∘Tm.re (putG at_ s) (up t.kind b))).sum=(l.map Tm.size).sum+cnt at_ (l.flatMap (Tm.vars (up t.kind b)))*(s.size-1):=by
    intro l
    induction l with
    |nil=>intro _;simp[cnt]
    |cons x l ihl=>
     intro hl
     have h2:=ih x (hl x (by simp)) (up t.kind b) (shape_args ht x (hl x (by simp)))
     have h3:=ihl fun y hy=>hl y (by simp[hy])
     simp only[List.map_cons,List.sum_cons,List.flatMap_cons,cnt_append,Function.comp_apply,h2,h3,Nat.add_mul]
     omega
   rw[this t.args fun x hx=>hx]
   omega
theorem at0_left{g h:List Ty}{i:Nat}(hi:i<g.length):at0 (g++h) i=at0 g i:=by
 simp only[at0,List.getD_eq_getElem?_getD,List.getElem?_append_left hi]
theorem at0_right{g h:List Ty}{i:Nat}(hi:g.length≤i):at0 (g++h) i=at0 h (i-g.length):=by
 simp only[at0,List.getD_eq_getElem?_getD,List.getElem?_append_right hi]
theorem look_right{g h:List Ty}{i:Nat}(hi:i<h.length):look (g++h) i=look h i:=by
 simp only[look,List.length_append]
 rw[at0_right (by omega)]
 congr 1;omega
theorem look_left{g h:List Ty}{i:Nat}(hi:h.length≤i)(hl:i<(g++h).length):look (g++h) i=look g (i-h.length):=by
 simp only[look,List.length_append] at hl ⊢
 rw[at0_left (by omega)]
 congr 1;omega
theorem inf_var'(g:List Ty)(i:Int)(h0:0≤i):(vT i).inf g=if i≥(g.length:Int) then(noTy,6) else(look g i.toNat,0):=by
 rw[Tm.inf_eq];rfl
theorem var_vT{t:Tm}(hs:t.shape=true)(h:t.kind=1):t=vT t.index:=by
 refine(Tm.eq_iff _ _).2 ⟨h,rfl,?_,var_args hs h⟩
 rw[Tm.shape_eq,Bool.and_eq_true] at hs
 have h1:=hs.1
 simp only[Tm.head,Bool.and_eq_true,h] at h1
 have h2:=h1.2
 have:typedK 1=false:=rfl
 rw[this,cond_false] at h2
 simp only[Ty.isNo,Bool.and_eq_true,beq_iff_eq] at h2
 exact(Ty.eq_iff _ _).2 ⟨h2.1,List.eq_nil_of_length_eq_zero h2.2⟩
theorem infs_congr{f:Tm→Tm}{g g':List Ty}:∀(l:List Tm),(∀x∈l,(f x).inf g'=x.inf g)→Tm.infs g' (l.map f)=Tm.infs g l:=by
 intro l
 induction l with
 |nil=>intro _;rfl
 |cons x l ih=>
  intro h
  simp only[List.map_cons,Tm.infs,h x (by simp),ih fun y hy=>h y (by simp[hy])]
theorem re_inf(G:Int→Int→Tm)(t:Tm):∀(g g' h:List Ty) (b:Int),t.shape=true→
 (∀(i:Int) (h':List Ty) (b':Int),0≤i→(b'-b=h'.length-h.length)→h.length≤h'.length→(∃e,h'=h++e)→(G i b').inf (g'++h')=(vT i).inf (g++h'))→
 (t.re G b).inf (g'++h)=t.inf (g++h):=by
 induction t using Tm.ind with
 |h t ih=>
  intro g g' h b hs hG
  by_cases h1:t.kind=1
  ·rw [re_var h1]
   have:=hG t.index h b (shape_index hs).1 (by omega) (by omega) ⟨[],by simp⟩
   rw[this,←var_vT hs h1]
  ·rw [re_node h1,Tm.inf_eq,Tm.inf_eq (t:=t)]
   simp only[Tm.kind_mk,Tm.ty_mk,Tm.args_mk,h1,if_false]
   by_cases h2:t.kind=2
   ·have e:up t.kind b=b+1:=if_pos h2
    have:Tm.infs (g'++h++[t.ty]) (t.args.map (Tm.re G (up t.kind b)))=Tm.infs (g++h++[t.ty]) t.args:=by
     refine infs_congr t.args fun x hx=> ?_
     rw[List.append_assoc,List.append_assoc]
     refine ih x hx g g' (h++[t.ty]) _ (shape_args hs x hx) fun i h' b' hi hb hl he=>hG i h' b' hi ?_ ?_ ?_
     ·rw [e] at hb;simp at hb;omega
     ·simp at hl;omega
     ·obtain ⟨e',he'⟩:=he;exact⟨[t.ty]++e',by rw[he',List.append_assoc]⟩
    simp only[h2,if_true,this]
    rw[←h2,this]
   ·have e:up t.kind b=b:=if_neg h2
    have:Tm.infs (g'++h) (t.args.map (Tm.re G (up t.kind b)))=Tm.infs (g++h) t.args:=infs_congr t.args fun x hx=>ih x hx g g' h _ (shape_args hs x hx) (by rw[e];exact hG)
    simp only[h2,if_false,this]
theorem lift_inf(t:Tm)(g m h:List Ty)(fr b:Int)(hs:t.shape=true)(hh:(h.length:Int)=fr+b):(t.re (liftG fr m.length) b).inf (g++m++h)=t.inf (g++h):=by
 refine re_inf _ t g (g++m) h b hs fun i h' b' hi hb hl _=> ?_
 have hlen:(h'.length:Int)=fr+b':=by omega
 show(vT (if i-b'≥fr then i+m.length else i)).inf _=_
 by_cases hc:i-b'≥fr
 ·rw [if_pos hc,inf_var' _ _ (by omega),inf_var' _ _ hi]
  simp only[List.length_append]
  by_cases hr:i≥((g.length+h'.length:Nat):Int)
  ·rw [if_pos (by omega),if_pos hr]
  ·rw [if_neg (by omega),if_neg hr]
   have e1:(i+(m.length:Int)).toNat=i.toNat+m.length:=by omega
   rw[look_left (by omega) (by simp;omega),look_left (by omega) (by simp;omega),look_left (by omega) (by simp;omega)]
   congr 2;omega
 ·rw [if_neg hc,inf_var' _ _ hi,inf_var' _ _ hi]
  simp only[List.length_append]
  rw[if_neg (by omega),if_neg (by omega),look_right (by omega),look_right (by omega)]
theorem put_inf(t s:Tm)(g h:List Ty)(σ:Ty)(at_ b:Int)(ht:t.shape=true)(hs:s.shape=true)(hh:(h.length:Int)=at_+b)(hσ:s.inf g=(σ,0)):(t.re (putG at_ s) b).inf (g++h)=t.inf (g++[σ]++h):=by
 refine re_inf _ t (g++[σ]) g h b ht fun i h' b' hi hb hl _=> ?_
 have hlen:(h'.length:Int)=at_+b':=by omega
 simp only[putG]
 by_cases hc:i-b'=at_
 ·rw [if_pos hc]
  have e:=lift_inf s g h' [] 0 0 hs rfl
  simp only[List.append_nil] at e
  rw[←hlen,e,hσ,inf_var' _ _ hi]
  simp only[List.length_append,List.length_cons,List.length_nil]
  rw[if_neg (by omega),look_left (by omega) (by simp;omega)]
  rw[show i.toNat-h'.length=0 by omega,look_last]
 ·rw [if_neg hc]
  by_cases hg:i-b'>at_
  ·rw [if_pos hg]
   show(vT (i-1)).inf _=_
   rw[inf_var' _ _ (by omega),inf_var' _ _ hi]
   simp only[List.length_append,List.length_cons,List.length_nil]
   by_cases hr:i≥((g.length+(0+1)+h'.length:Nat):Int)
   ·rw [if_pos (by omega),if_pos hr]
   ·rw [if_neg (by omega),if_neg hr,look_left (by omega) (by simp;omega),look_left (by omega) (by simp;omega)]
    obtain⟨k,hk⟩:∃k,i.toNat-h'.length=k+1:=⟨i.toNat-h'.length-1,by omega⟩
    rw[hk,look_succ g σ k (by omega)]
    congr 2;omega
  ·rw [if_neg hg]
   show(vT i).inf _=_
   rw[inf_var' _ _ hi,inf_var' _ _ hi]
   simp only[List.length_append,List.length_cons,List.length_nil]
   rw[if_neg (by omega),if_neg (by omega),look_right (by omega),look_right (by omega)]
theorem near_of{t:Tm}{g:List Ty}(h:(t.inf g).2=0)(hs:t.shape=true)(hb:g.length+t.size≤536870912):t.near=true:=
 List.all_eq_true.2 fun p hp=>by
  have:=vars_bound t g 0 536870912 h hs (by omega) p hp
  simp;omega
theorem Tm.err_iff(t:Tm):t.err=0↔t.shape=true∧t.size≤4096:=by
 simp only[Tm.err]
 cases t.shape
 ·simp
 ·by_cases h:t.size>4096
  ·simp [h]
  ·simp [h];omega
theorem lift_full(fr by_:Int)(t:Tm):∀b,t.shape=true→(t.re (liftG fr by_) b).full=t.full:=by
 induction t using Tm.ind with
 |h t ih=>
  intro b hs
  by_cases h1:t.kind=1
  ·rw [re_var h1]
   conv=>rhs;rw[var_vT hs h1]
   simp[liftG,vT,Tm.full,Tm.fulls]
  ·rw [re_node h1,t.full_eq,Tm.full_eq]
   simp only[Tm.args_mk,Tm.ty_mk,List.map_map]
   congr 2
   exact List.map_congr_left fun x hx=>ih x hx _ (shape_args hs x hx)
theorem Dk.type1(d:Dk):(d.type 1).1.small:=by
 have e:=Dk.type_eq 1 d
 rw[show(1:Int).toNat=1 from rfl,show((1:Int)-1).toNat=0 from rfl] at e
 have h1:=Dk.type0 (d.next 7).2
 have h2:=Dk.type0 ((d.next 7).2.type 0).2
 rw[e]
 generalize ((d.next 7).2.type 0).1=a at*
 generalize (((d.next 7).2.type 0).2.type 0).1=b at*
 split
 ·split
  ·exact ⟨two_shape h1.1 h2.1,show(twoT a b).size≤3 by rw[two_size];omega⟩
  ·exact ⟨fun_shape h1.1 h2.1,show(funT a b).size≤3 by rw[fun_size];omega⟩
 ·split
  ·exact ⟨rfl,show(Ty.mk 2 []).size≤3 by decide⟩
  ·split
   ·exact ⟨rfl,show(Ty.mk 5 []).size≤3 by decide⟩
   ·exact ⟨rfl,show(Ty.mk 1 []).size≤3 by decide⟩
theorem Dk.types_smalls:∀(n:Nat) (d:Dk),smalls (d.types n).1
 |0,d=>smalls_nil
 |n+1,d=>smalls_cons (Dk.type1 d) (Dk.types_smalls n _)
theorem Dk.ctx_smalls(d:Dk):smalls d.ctx.1:=Dk.types_smalls _ _
theorem Dk.ctx_len(d:Dk):d.ctx.1.length≤3:=by
 have:=Dk.next_bd d 4 (by omega)
 simp only[Dk.ctx,Dk.types_len];omega
theorem Dk.ctx_ok{d:Dk}(h:d.ok):d.ctx.2.ok:=Dk.types_ok _ _ (Dk.next_ok h 4)
def typed(g:List Ty)(t:Tm):Ty×Int:=if t.err≠0 then(noTy,t.err) else t.inf g
def typeOf(g:List Ty)(t:Tm):Ty×Int:=if ctxErr g≠0 then(noTy,ctxErr g) else typed g t
theorem ctxErr_ok{g:List Ty}(h:smalls g)(hl:g.length≤16):ctxErr g=0:=by
 unfold ctxErr
 rw[if_neg (by omega)]
 exact firstErr_none g fun j hj _=>small_err (h _ (List.getElem_mem hj))
theorem firstErr_all:∀{g:List Ty},firstErr g=0→∀x∈g,x.err=0
 |[],_,x,hx=>by cases hx
 |t::l,h,x,hx=>by
  simp only[firstErr] at h
  by_cases h1:t.err=0
  ·simp only[h1,ne_eq,not_true_eq_false,if_false] at h
   rcases List.mem_cons.1 hx with rfl|hx
   ·exact h1
   ·exact firstErr_all h x hx
  ·rw [if_pos h1] at h;exact absurd h h1
theorem ctxErr_all{g:List Ty}(h:ctxErr g=0):g.length≤16∧∀x∈g,x.err=0:=by
 unfold ctxErr at h
 by_cases h1:g.length>16
 ·rw [if_pos h1] at h;exact absurd h (by decide)
 ·rw [if_neg h1] at h;exact⟨by omega,firstErr_all h⟩
theorem Mk.err{n:Nat}{g:List Ty}{t:Ty}{x:Tm}(h:Mk n g t x)(hg:smalls g)(ht:t.small)(hn:n≤5):x.err=0:=by
 refine(Tm.err_iff x).2 ⟨h.shape hg ht,?_⟩
 have:=(h.size hg ht).1
 have:s3 n≤232:=by
  match n,hn with
  |0,_=>decide
  |1,_=>decide
  |2,_=>decide
  |3,_=>decide
  |4,_=>decide
  |5,_=>decide
 omega
theorem Mk.small_size{n:Nat}{g:List Ty}{t:Ty}{x:Tm}(h:Mk n g t x)(hg:smalls g)(ht:t.small)(hn:n≤5):x.size≤232:=by
 have:=(h.size hg ht).1
 have:s3 n≤232:=by
  match n,hn with
  |0,_=>decide
  |1,_=>decide
  |2,_=>decide
  |3,_=>decide
  |4,_=>decide
  |5,_=>decide
 omega
theorem Mk.near{n:Nat}{g:List Ty}{t:Ty}{x:Tm}(h:Mk n g t x)(hg:smalls g)(ht:t.small)(hn:n≤5)(hl:g.length≤100000):x.near=true:=
 near_of (by rw[h.inf hg ht]) (h.shape hg ht) (by have:=h.small_size hg ht hn;omega)
def ofT(t:Ty):Sz:=⟨t,t.num⟩
def zSz:Sz:=⟨noTy,0⟩
theorem num_ok{t:Ty}(h:t.err=0):t.num=t.size:=by simp[Ty.num,h]
def plainK(k:Int):List Int:=if k=4 then [1] else if k=5 then [1,1] else if k=7 then [2] else if k=8 then [2,1,2] else if k=13 then [5] else []
def joinS(k:Int)(a b:Sz):Sz×Int:=if 1+a.nodes+b.nodes>64 then(zSz,4) else(⟨.mk k [a.ty,b.ty],1+a.nodes+b.nodes⟩,0)
def funs(r:Ty)(l:List Ty):Ty:=l.foldr funT r
def stepT(t:Tm):Ty:=if t.kind=9 then funs t.ty [natT,listT,t.ty] else funs t.ty [natT,t.ty]
theorem join_ok{k:Int}{a b:Ty}(hk:k=3∨k=4)(ha:a.err=0)(hb:b.err=0):joinS k (ofT a) (ofT b)=(ofT (okT (.mk k [a,b])).1,(okT (.mk k [a,b])).2):=by
 have sa:=(Ty.err_iff a).1 ha
 have sb:=(Ty.err_iff b).1 hb
 have hsh:(Ty.mk k [a,b]).shape=true:=by
  rcases hk with rfl|rfl
  ·exact two_shape sa.1 sb.1
  ·exact fun_shape sa.1 sb.1
 have hsz:(Ty.mk k [a,b]).size=1+(a.size+b.size):=by simp[Ty.size,Ty.sizes]
 simp only[joinS,ofT,num_ok ha,num_ok hb]
 by_cases h:a.size+b.size>63
 ·have he:(Ty.mk k [a,b]).err=4:=by simp only[Ty.err,hsh];rw[if_neg (by simp),if_pos (by omega)]
  rw[if_pos (by omega)]
  simp[okT,he,zSz]
  rfl
 ·have he:(Ty.mk k [a,b]).err=0:=(Ty.err_iff _).2 ⟨hsh,by omega⟩
  rw[if_neg (by omega),okT_ok he]
  simp only[num_ok he,hsz]
  congr 2;omega
theorem same_ok{a b:Ty}(ha:a.err=0)(hb:b.err=0):((ofT a).nodes==(ofT b).nodes&&decide (a=b))=decide (a=b):=by
 by_cases h:a=b
 ·subst h;simp
 ·simp [h]
def pad3:List Ty→List V
 |[]=>zSz.view++zSz.view++zSz.view
 |[a]=>(ofT a).view++zSz.view++zSz.view
 |[a,b]=>(ofT a).view++(ofT b).view++zSz.view
 |a::b::c::_=>(ofT a).view++(ofT b).view++(ofT c).view
theorem Mk.weak{n:Nat}{g:List Ty}{t:Ty}{x:Tm}(m:List Ty)(h:Mk n g t x):Mk n (m++g) t x:=by
 induction h with
 |var n g t i hi h=>exact .var n _ t i (by simp;omega) ((look_right hi).trans h)
 |app n g t s a b hn hs h1 _ _ iha ihb=>exact .app n _ t s a b hn hs h1 (by rw[List.append_assoc];exact iha) ihb
 |fst n g t s a b hn hs h1 _ _ iha ihb=>exact .fst n _ t s a b hn hs h1 iha ihb
 |snd n g t s a b hn hs h1 _ _ iha ihb=>exact .snd n _ t s a b hn hs h1 iha ihb
 |recu n g t a b m' hn hm _ _ iha ihb=>exact .recu n _ t a b m' hn hm (by rw[List.append_assoc];exact iha) ihb
 |fold n g t a b c hn _ _ _ iha ihb ihc=>exact .fold n _ t a b c hn (by rw[List.append_assoc];exact iha) ihb ihc
 |ctx n g t s a hn i hi h h1 _ iha=>exact .ctx n _ t s a hn i (by simp;omega) ((look_right hi).trans h) h1 iha
 |succ n g a hn _ iha=>exact .succ n _ a hn iha
 |plus n g a b hn _ _ iha ihb=>exact .plus n _ a b hn iha ihb
 |sub n g a b hn _ _ iha ihb=>exact .sub n _ a b hn iha ihb
 |num n g m' hm=>exact .num n _ m' hm
 |cons n g a b hn _ _ iha ihb=>exact .cons n _ a b hn iha ihb
 |nil n g=>exact .nil n _
 |pair n g s t a b h1 h2 _ _ iha ihb=>exact .pair n _ s t a b h1 h2 iha ihb
 |lam n g s t a h1 h2 _ iha=>exact .lam n _ s t a h1 h2 (by rw[List.append_assoc];exact iha)
 |unit n g=>exact .unit n _
theorem small_ok{t:Ty}(h:t.small):t.ok=true:=ok_of h.1 (by have:=h.2;omega)
def firstErrM:List Tm→Int
 |[]=>0
 |t::l=>if t.err≠0 then t.err else firstErrM l
def applyN(f:Tm)(l:List Tm):Nat:=f.size+(l.map fun x=>1+x.size).sum
def applyE(f:Tm)(l:List Tm):Int:=if f.err≠0 then f.err else if firstErrM l≠0 then firstErrM l else if applyN f l>4096 then 4 else 0
def applyS(f:Tm)(l:List Tm):Tm:=if applyE f l=0 then appT f l else noTm
mutual
def dfl:Ty→Tm
 | .mk k l=>if k=2 then nT 7 [] else if k=5 then nT 13 [] else if k=3 then nT 10 (dfls l) else if k=4 then lmT (at0 l 0) ((dfls l).getD 1 noTm) else nT 4 []
def dfls:List Ty→List Tm
 |[]=>[]
 |t::l=>dfl t::dfls l
end
def Tm.arg(t:Tm)(i:Nat):Tm:=t.args.getD i noTm
mutual
def timesT(at_:Int):Tm→Nat
 | .mk k i h xs=>if k=1∧i=at_ then 1 else timesTs (up k at_) xs
def timesTs(at_:Int):List Tm→Nat
 |[]=>0
 |x::l=>timesT at_ x+timesTs at_ l
end
theorem timesTs_eq(at_:Int):∀l:List Tm,timesTs at_ l=(l.map (timesT at_)).sum
 |[]=>rfl
 |x::l=>by rw[timesTs,timesTs_eq at_ l];rfl
theorem timesT_eq(at_:Int)(t:Tm):timesT at_ t=if t.kind=1∧t.index=at_ then 1 else(t.args.map (timesT (up t.kind at_))).sum:=by
 cases t;simp only[timesT,timesTs_eq,Tm.kind_mk,Tm.index_mk,Tm.args_mk];rfl
theorem timesT_le(t:Tm):∀at_,timesT at_ t≤t.size:=by
 induction t using Tm.ind with
 |h t ih=>
  intro at_
  rw[timesT_eq,t.size_eq]
  split
  ·omega
  ·have:=lsum_le (f:=timesT (up t.kind at_)) (g:=Tm.size) t.args fun x hx=>ih x hx _
   omega
theorem times_cnt(t:Tm):∀at_ b:Int,t.shape=true→timesT (at_+b) t=cnt at_ (t.vars b):=by
 induction t using Tm.ind with
 |h t ih=>
  intro at_ b hs
  rw[timesT_eq]
  by_cases h1:t.kind=1
  ·rw [vars_var hs h1,cnt_one,var_args hs h1]
   by_cases h:t.index=at_+b
   ·rw [if_pos ⟨h1,h⟩,if_pos (by show t.index-b=at_;omega)]
   ·rw [if_neg (fun hh=>h hh.2),if_neg (by show ¬t.index-b=at_;omega)];rfl
  ·rw [if_neg (fun hh=>h1 hh.1)]
   have hargs:=shape_args hs
   obtain⟨k,i,th,xs⟩:=t
   rw[cnt_node at_ b k i th xs h1]
   have e:up k (at_+b)=at_+up k b:=by unfold up;split<;>omega
   simp only[Tm.kind_mk,Tm.args_mk] at*
   rw[e]
   congr 1
   exact List.map_congr_left fun x hx=>ih x hx at_ (up k b) (hargs x hx)
def smallT(t:Tm):Bool:=
 if t.kind=3 then(t.arg 0).kind==2&&((t.arg 1).args.length==0||decide (timesT 0 ((t.arg 0).arg 0)≤1))
 else if t.kind=6 then(t.arg 2).kind==4
 else if t.kind=9 then(t.arg 2).kind==7
 else if t.kind=11∨t.kind=12 then(t.arg 0).kind==10 else false
def becomeT(t:Tm):Tm:=
 if t.kind=3 then((t.arg 0).arg 0).re (putG 0 (t.arg 1)) 0
 else if t.kind=11 then(t.arg 0).arg 0 else if t.kind=12 then(t.arg 0).arg 1 else t.arg 0
mutual
def nextT:Tm→Option Tm
 | .mk k i h xs=>if smallT (.mk k i h xs)=true then some (becomeT (.mk k i h xs)) else(nextTs xs).map (Tm.mk k i h)
def nextTs:List Tm→Option (List Tm)
 |[]=>none
 |x::l=>match nextT x with
  |some u=>some (u::l)
  |none=>(nextTs l).map (x::·)
end
theorem nextT_eq(t:Tm):nextT t=if smallT t=true then some (becomeT t) else(nextTs t.args).map (Tm.mk t.kind t.index t.ty):=by
 cases t;simp only[nextT];rfl
theorem nextTs_some:∀(xs ys:List Tm),nextTs xs=some ys→∃(i:Nat) (hi:i<xs.length) (u:Tm),nextT xs[i]=some u∧ys=xs.set i u∧∀(j:Nat) (hj:j<xs.length),j<i→nextT xs[j]=none
 |[],ys,h=>by simp[nextTs] at h
 |x::l,ys,h=>by
  simp only[nextTs] at h
  cases hx:nextT x with
  |some u=>
   rw[hx] at h
   cases h
   exact⟨0,by simp,u,hx,rfl,fun j _ hj=>by omega⟩
  |none=>
   rw[hx] at h
   simp only[Option.map_eq_some_iff] at h
   obtain⟨zs,h1,rfl⟩:=h
   obtain⟨i,hi,u,h2,rfl,h3⟩:=nextTs_some l zs h1
   refine⟨i+1,by simpa using hi,u,by simpa using h2,rfl,fun j hj hji=> ?_⟩
   cases j with
   |zero=>exact hx
   |succ j=>have:=h3 j (by simpa using hj) (by omega);simpa using this
theorem inf_node{t:Tm}{g:List Ty}{T:Ty}(h1:t.kind≠1)(h2:t.kind≠2)(h:t.inf g=(T,0)):(∀x∈t.args,(x.inf g).2=0)∧rule t.kind t.ty (t.args.map fun x=>(x.inf g).1)=(T,0):=by
 rw[Tm.inf_eq,if_neg h1,if_neg h2] at h
 by_cases h3:(Tm.infs g t.args).2=0
 ·rw [if_neg (by simpa using h3)] at h
  have h4:=Tm.infs_all g t.args h3
  refine⟨h4,?_⟩
  rw[Tm.infs_ok g t.args h4] at h
  exact h
 ·rw [if_pos h3] at h
  exact absurd (congrArg Prod.snd h) h3
theorem inf_lam_inv{i:Int}{th T:Ty}{b:Tm}{g:List Ty}(h:(Tm.mk 2 i th [b]).inf g=(T,0)):(b.inf (g++[th])).2=0∧T=funT th (b.inf (g++[th])).1:=by
 rw[Tm.inf_eq,if_neg (by simp),if_pos (by simp)] at h
 simp only[Tm.args_mk,Tm.ty_mk] at h
 by_cases h3:(b.inf (g++[th])).2=0
 ·refine ⟨h3,?_⟩
  simp only[Tm.infs,h3,ne_eq,not_true_eq_false,if_false] at h
  unfold okT at h
  split at h
  ·exact (congrArg Prod.fst h).symm
  ·exact absurd (congrArg Prod.snd h) (by simp)
 ·simp only[Tm.infs,h3,ne_eq,not_false_eq_true,if_true] at h
  exact absurd (congrArg Prod.snd h) h3
theorem okT_two{a b T:Ty}(h:okT (twoT a b)=(T,0)):T=twoT a b:=by
 unfold okT at h
 split at h
 ·exact (congrArg Prod.fst h).symm
 ·exact absurd (congrArg Prod.snd h) (by simp)
theorem pair_inf{i:Int}{th T:Ty}{x y:Tm}{g:List Ty}(h:(Tm.mk 10 i th [x,y]).inf g=(T,0)):(x.inf g).2=0∧(y.inf g).2=0∧T=twoT (x.inf g).1 (y.inf g).1:=by
 obtain⟨h1,h2⟩:=inf_node (by simp) (by simp) h
 exact⟨h1 x (by simp),h1 y (by simp),okT_two (by simpa [rule,at0] using h2)⟩
theorem mkArgs2{t:Tm}(hs:t.shape=true){k:Int}(hk:t.kind=k)(ha:arK k=some 2):∃i th x y,t= .mk k i th [x,y]∧x.shape=true∧y.shape=true:=by
 have h:=arK_len hs
 have h2:=shape_args hs
 obtain⟨k',i,th,xs⟩:=t
 simp only[Tm.kind_mk,Tm.args_mk] at*
 subst hk
 rw[ha] at h
 obtain⟨x,y,rfl⟩:=len_2 (Option.some.inj h).symm
 exact⟨i,th,x,y,rfl,h2 x (by simp),h2 y (by simp)⟩
theorem mkArgs1{t:Tm}(hs:t.shape=true){k:Int}(hk:t.kind=k)(ha:arK k=some 1):∃i th x,t= .mk k i th [x]∧x.shape=true:=by
 have h:=arK_len hs
 have h2:=shape_args hs
 obtain⟨k',i,th,xs⟩:=t
 simp only[Tm.kind_mk,Tm.args_mk] at*
 subst hk
 rw[ha] at h
 obtain⟨x,rfl⟩:=len_1 (Option.some.inj h).symm
 exact⟨i,th,x,rfl,h2 x (by simp)⟩
theorem mkArgs3{t:Tm}(hs:t.shape=true){k:Int}(hk:t.kind=k)(ha:arK k=some 3):∃i th x y z,t= .mk k i th [x,y,z]∧x.shape=true∧y.shape=true∧z.shape=true:=by
 have h:=arK_len hs
 have h2:=shape_args hs
 obtain⟨k',i,th,xs⟩:=t
 simp only[Tm.kind_mk,Tm.args_mk] at*
 subst hk
 rw[ha] at h
 obtain⟨x,y,z,rfl⟩:=len_3 (Option.some.inj h).symm
 exact⟨i,th,x,y,z,rfl,h2 x (by simp),h2 y (by simp),h2 z (by simp)⟩
theorem small_cases'{t:Tm}(hs:t.shape=true)(h:smallT t=true):
 (∃i th j s b a,t= .mk 3 i th [.mk 2 j s [b],a]∧b.shape=true∧a.shape=true∧(a.args.length=0∨timesT 0 b≤1)∧becomeT t=b.re (putG 0 a) 0)∨
 (∃k i th x y z,(k=6∨k=9)∧t= .mk k i th [x,y,z]∧x.shape=true∧becomeT t=x)∨
 (∃k i th j s x y,(k=11∨k=12)∧t= .mk k i th [.mk 10 j s [x,y]]∧x.shape=true∧y.shape=true∧becomeT t=if k=11 then x else y):=by
 unfold smallT at h
 by_cases h3:t.kind=3
 ·left
  rw[if_pos h3] at h
  obtain⟨i,th,f,a,rfl,hf,ha⟩:=mkArgs2 hs h3 rfl
  simp only[Tm.arg,Tm.args_mk,List.getD_cons_zero,List.getD_cons_succ,Bool.and_eq_true,beq_iff_eq,Bool.or_eq_true,decide_eq_true_eq] at h
  obtain⟨j,s,b,rfl,hb⟩:=mkArgs1 hf h.1 rfl
  exact⟨i,th,j,s,b,a,rfl,hb,ha,by simpa [Tm.arg] using h.2,rfl⟩
 ·rw [if_neg h3] at h
  by_cases h6:t.kind=6
  ·obtain ⟨i,th,x,y,z,rfl,hx,_,_⟩:=mkArgs3 hs h6 rfl
   exact .inr (.inl ⟨6,i,th,x,y,z,.inl rfl,rfl,hx,rfl⟩)
  ·rw [if_neg h6] at h
   by_cases h9:t.kind=9
   ·obtain ⟨i,th,x,y,z,rfl,hx,_,_⟩:=mkArgs3 hs h9 rfl
    exact .inr (.inl ⟨9,i,th,x,y,z,.inr rfl,rfl,hx,rfl⟩)
   ·rw [if_neg h9] at h
    by_cases h11:t.kind=11∨t.kind=12
    ·rw [if_pos h11] at h
     have ha:arK t.kind=some 1:=by rcases h11 with h|h<;>rw[h]<;>rfl
     obtain⟨i,th,p,rfl',hp⟩:=mkArgs1 hs rfl ha
     rw[rfl'] at h
     simp only[Tm.arg,Tm.args_mk,List.getD_cons_zero,beq_iff_eq] at h
     obtain⟨j,s,x,y,rfl,hx,hy⟩:=mkArgs2 hp h rfl
     refine .inr (.inr ⟨t.kind,i,th,j,s,x,y,h11,rfl',hx,hy,?_⟩)
     rcases h11 with hk|hk<;>rw[rfl',hk]<;>rfl
    ·rw [if_neg h11] at h;cases h
theorem small_inf{t:Tm}{g:List Ty}{T:Ty}(hs:t.shape=true)(h:t.inf g=(T,0))(hsm:smallT t=true):(becomeT t).inf g=(T,0)∧(becomeT t).shape=true∧(becomeT t).size<t.size:=by
 rcases small_cases' hs hsm with⟨i,th,j,s,b,a,rfl,hb,ha,hor,e⟩|⟨k,i,th,x,y,z,hk,rfl,hx,e⟩|⟨k,i,th,j,s,x,y,hk,rfl,hx,hy,e⟩
 ·rw [e]
  obtain⟨h1,h2⟩:=inf_node (by simp) (by simp) h
  have hf:(Tm.mk 2 j s [b]).inf g=(((Tm.mk 2 j s [b]).inf g).1,0):=by rw[←h1 (.mk 2 j s [b]) (by simp)]
  obtain⟨h3,h4⟩:=inf_lam_inv hf
  have ha0:=h1 a (by simp)
  simp only[Tm.kind_mk,Tm.ty_mk,Tm.args_mk,List.map_cons,List.map_nil,h4] at h2
  have h5:s=(a.inf g).1∧(b.inf (g++[s])).1=T:=by
   simp only[rule,at0,List.getD_cons_zero,List.getD_cons_succ,funT_kind,funT_args] at h2
   by_cases h6:s=(a.inf g).1
   ·refine ⟨h6,?_⟩
    simp[h6] at h2
    rw[h6];exact h2
   ·simp [h6] at h2
  have hσ:a.inf g=(s,0):=by rw[h5.1,←ha0]
  have hp:=put_inf b a g [] s 0 0 hb ha rfl hσ
  rw[List.append_nil,List.append_nil] at hp
  refine⟨by rw[hp,←h5.2,←h3],put_shape 0 ha hb (by omega) (by omega) (fun p hp=>vars_snd b 0 p hp),?_⟩
  rw[put_size 0 a b ha 0 hb]
  have hc:=times_cnt b 0 0 hb
  rw[show(0:Int)+0=0 from rfl] at hc
  have hsz:(Tm.mk 3 i th [Tm.mk 2 j s [b],a]).size=2+b.size+a.size:=by simp only[Tm.size,Tm.sizes];omega
  rw[hsz,←hc]
  have hap:=a.size_pos
  rcases hor with h0|h0
  ·have:a.size=1:=by rw[a.size_eq,List.eq_nil_of_length_eq_zero h0];rfl
   rw[this];omega
  ·have:timesT 0 b*(a.size-1)≤1*(a.size-1):=Nat.mul_le_mul_right _ h0
   omega
 ·rw [e]
  have hne:(Tm.mk k i th [x,y,z]).kind≠1∧(Tm.mk k i th [x,y,z]).kind≠2:=by rcases hk with rfl|rfl<;>exact⟨by simp,by simp⟩
  obtain⟨h1,h2⟩:=inf_node hne.1 hne.2 h
  have hx0:=h1 x (by simp)
  refine⟨?_,hx,by simp only[Tm.size,Tm.sizes];omega⟩
  have h3:(x.inf g).1=th∧th=T:=by
   simp only[Tm.kind_mk,Tm.ty_mk,Tm.args_mk,List.map_cons,List.map_nil] at h2
   rcases hk with rfl|rfl
   ·simp only[rule,at0,List.getD_cons_zero,List.getD_cons_succ] at h2
    by_cases h6:(x.inf g).1=th
    ·refine ⟨h6,?_⟩
     simp[h6] at h2
     split at h2
     ·simp at h2
     ·simpa using h2
    ·simp [h6] at h2
   ·simp only[rule,at0,List.getD_cons_zero,List.getD_cons_succ] at h2
    by_cases h6:(x.inf g).1=th
    ·refine ⟨h6,?_⟩
     simp[h6] at h2
     split at h2
     ·simp at h2
     ·simpa using h2
    ·simp [h6] at h2
  rw[←h3.2,←h3.1,←hx0]
 ·rw [e]
  have hne:(Tm.mk k i th [Tm.mk 10 j s [x,y]]).kind≠1∧(Tm.mk k i th [Tm.mk 10 j s [x,y]]).kind≠2:=by rcases hk with rfl|rfl<;>exact⟨by simp,by simp⟩
  obtain⟨h1,h2⟩:=inf_node hne.1 hne.2 h
  have hf:(Tm.mk 10 j s [x,y]).inf g=(((Tm.mk 10 j s [x,y]).inf g).1,0):=by rw[←h1 (.mk 10 j s [x,y]) (by simp)]
  obtain⟨h3,h4,h5⟩:=pair_inf hf
  simp only[Tm.kind_mk,Tm.ty_mk,Tm.args_mk,List.map_cons,List.map_nil,h5] at h2
  rcases hk with rfl|rfl
  ·rw [if_pos rfl]
   refine⟨?_,hx,by simp only[Tm.size,Tm.sizes];omega⟩
   simp[rule,at0] at h2
   rw[←h2,←h3]
  ·rw [if_neg (by decide)]
   refine⟨?_,hy,by simp only[Tm.size,Tm.sizes];omega⟩
   simp[rule,at0] at h2
   rw[←h2,←h4]
theorem sum_set{α:Type}(f:α→Nat)(u:α):∀(xs:List α) (i:Nat) (hi:i<xs.length),((xs.set i u).map f).sum+f xs[i]=(xs.map f).sum+f u
 |[],i,hi=>by simp at hi
 |x::l,0,_=>by simp only[List.set_cons_zero,List.map_cons,List.sum_cons,List.getElem_cons_zero];omega
 |x::l,i+1,hi=>by
  have:=sum_set f u l i (by simpa using hi)
  simp only[List.set_cons_succ,List.map_cons,List.sum_cons,List.getElem_cons_succ];omega
theorem infs_set(g:List Ty)(u:Tm):∀(xs:List Tm) (i:Nat) (hi:i<xs.length),u.inf g=xs[i].inf g→Tm.infs g (xs.set i u)=Tm.infs g xs
 |[],i,hi,_=>by simp at hi
 |x::l,0,_,h=>by
  simp only[List.getElem_cons_zero] at h
  simp only[List.set_cons_zero,Tm.infs,h]
 |x::l,i+1,hi,h=>by
  simp only[List.set_cons_succ,Tm.infs]
  rw[infs_set g u l i (by simpa using hi) (by simpa using h)]
theorem inf_two(i:Int)(th:Ty)(xs:List Tm)(g:List Ty):(Tm.mk 2 i th xs).inf g=if(Tm.infs (g++[th]) xs).2≠0 then(noTy,(Tm.infs (g++[th]) xs).2) else okT (funT th (at0 (Tm.infs (g++[th]) xs).1 0)):=by
 rw[Tm.inf]
 rw[if_neg (by decide),if_pos rfl]
theorem lam_congr{i:Int}{th:Ty}{v b:Tm}{g:List Ty}(hv:v.inf (g++[th])=b.inf (g++[th])):(Tm.mk 2 i th [v]).inf g=(Tm.mk 2 i th [b]).inf g:=by
 have e:Tm.infs (g++[th]) [v]=Tm.infs (g++[th]) [b]:=infs_set (g++[th]) v [b] 0 (by simp) hv
 rw[inf_two,inf_two,e]
theorem set_shape{k i:Int}{th:Ty}{xs:List Tm}{m:Nat}{u:Tm}(h:(Tm.mk k i th xs).shape=true)(hu:u.shape=true):(Tm.mk k i th (xs.set m u)).shape=true:=by
 have hargs:=shape_args h
 rw[Tm.shape_eq] at h ⊢
 simp only[Bool.and_eq_true] at h ⊢
 refine⟨?_,?_⟩
 ·have e:(Tm.mk k i th (xs.set m u)).head=(Tm.mk k i th xs).head:=by simp only[Tm.head,Tm.kind_mk,Tm.args_mk,Tm.index_mk,Tm.ty_mk];cases arK k<;>simp<;>rfl
  rw[e];exact h.1
 ·refine List.all_eq_true.2 fun x hx=> ?_
  rcases List.mem_or_eq_of_mem_set hx with hx|rfl
  ·exact hargs x hx
  ·exact hu
theorem next_ok(t:Tm):∀(g:List Ty) (T:Ty) (u:Tm),t.shape=true→t.inf g=(T,0)→nextT t=some u→u.inf g=(T,0)∧u.shape=true∧u.size<t.size:=by
 induction t using Tm.ind with
 |h t ih=>
  intro g T u hs h hn
  rw[nextT_eq] at hn
  by_cases hsm:smallT t=true
  ·rw [if_pos hsm] at hn
   cases hn
   exact small_inf hs h hsm
  ·rw [if_neg hsm,Option.map_eq_some_iff] at hn
   obtain⟨ys,h1,rfl⟩:=hn
   obtain⟨m,hm,v,h2,rfl,_⟩:=nextTs_some _ _ h1
   have hargs:=shape_args hs
   have hx:=hargs _ (List.getElem_mem hm)
   have hmem:=List.getElem_mem hm
   have hss:=fun(hv:v.size<(t.args[m]).size)=>sum_set Tm.size v t.args m hm
   by_cases k1:t.kind=1
   ·exact absurd (var_args hs k1) (fun hh=>by rw[hh] at hm;simp at hm)
   ·have key:∀g' T',(t.args[m]).inf g'=(T',0)→v.inf g'=(T',0)∧v.shape=true∧v.size<(t.args[m]).size:=fun g' T' hi=>ih _ hmem g' T' v hx hi h2
    by_cases k2:t.kind=2
    ·obtain ⟨i,th,b,rfl,hb⟩:=mkArgs1 hs k2 rfl
     obtain⟨h3,h4⟩:=inf_lam_inv h
     have hm0:m=0:=by simp at hm;omega
     subst hm0
     simp only[Tm.args_mk,List.getElem_cons_zero] at*
     obtain⟨q1,q2,q3⟩:=key (g++[th]) (b.inf (g++[th])).1 (by rw[←h3])
     refine⟨?_,set_shape (m:=0) (xs:=[b]) hs q2,?_⟩
     ·have:v.inf (g++[th])=b.inf (g++[th]):=by rw[q1,←h3]
      rw[←h]
      simp only[List.set_cons_zero,Tm.kind_mk,Tm.ty_mk,Tm.index_mk]
      exact lam_congr this
     ·simp only[List.set_cons_zero,Tm.size,Tm.sizes];omega
    ·obtain ⟨h3,h4⟩:=inf_node k1 k2 h
     have h5:=h3 _ hmem
     obtain⟨q1,q2,q3⟩:=key g (t.args[m].inf g).1 (by rw[←h5])
     have hset:=hss q3
     have hi:v.inf g=(t.args[m]).inf g:=by rw[q1,←h5]
     refine⟨?_,?_,?_⟩
     ·rw [←h,Tm.inf_eq g (Tm.mk t.kind t.index t.ty (t.args.set m v)),if_neg (show ¬(Tm.mk t.kind t.index t.ty (t.args.set m v)).kind=1 from k1),if_neg (show ¬(Tm.mk t.kind t.index t.ty (t.args.set m v)).kind=2 from k2),t.inf_eq,if_neg k1,if_neg k2]
      show(if(Tm.infs g (t.args.set m v)).2≠0 then(noTy,(Tm.infs g (t.args.set m v)).2) else rule t.kind t.ty (Tm.infs g (t.args.set m v)).1)=_
      rw[infs_set g v t.args m hm hi]
     ·obtain ⟨k,i,th,xs⟩:=t
      exact set_shape hs q2
     ·rw [t.size_eq,Tm.size_eq]
      simp only[Tm.args_mk]
      omega
theorem shape_full(t:Tm):t.shape=true→t.full≤65*t.size:=by
 induction t using Tm.ind with
 |h t ih=>
  intro hs
  have hargs:=shape_args hs
  have hty:t.ty.size≤64:=by
   rw[Tm.shape_eq,Bool.and_eq_true] at hs
   have:=hs.1
   simp only[Tm.head,Bool.and_eq_true] at this
   have h2:=this.2
   cases hk:typedK t.kind with
   |true=>rw[hk] at h2;simp only[cond_true,Ty.ok,Bool.and_eq_true,decide_eq_true_eq] at h2;exact h2.2
   |false=>
    rw[hk] at h2
    simp only[cond_false,Ty.isNo,Bool.and_eq_true,beq_iff_eq] at h2
    rw[t.ty.size_eq,List.eq_nil_of_length_eq_zero h2.2]
    exact Nat.le_trans (Nat.le_of_eq rfl) (by decide)
  have hsum:=lsum_le (f:=Tm.full) (g:=fun x=>65*x.size) t.args fun x hx=>ih x hx (hargs x hx)
  have hmul:∀l:List Tm,(l.map fun x=>65*x.size).sum=65*(l.map Tm.size).sum:=by
   intro l
   induction l with
   |nil=>rfl
   |cons x l ih=>simp only[List.map_cons,List.sum_cons,ih];omega
  rw[hmul] at hsum
  rw[t.full_eq,t.size_eq]
  omega
inductive Red:Tm→Tm→Nat→Prop
 |done {t:Tm} (h:nextT t=none):Red t t 0
 |step {t u v:Tm} {n:Nat} (h:nextT t=some u) (hr:Red u v n):Red t v (n+1)
theorem next_pair(a b:Tm):nextT (nT 10 [a,b])=match nextT a with|some u=>some (nT 10 [u,b])|none=>(nextT b).map fun v=>nT 10 [a,v]:=by
 rw[nextT_eq,if_neg (by simp[smallT,nT])]
 simp only[nT,Tm.args_mk,Tm.kind_mk,Tm.index_mk,Tm.ty_mk,nextTs]
 cases nextT a with
 |some u=>rfl
 |none=>
  cases nextT b with
  |some v=>rfl
  |none=>rfl
theorem Red.right{a:Tm}(ha:nextT a=none){b y:Tm}{m:Nat}(h:Red b y m):Red (nT 10 [a,b]) (nT 10 [a,y]) m:=by
 induction h with
 |done h=>exact .done (by rw[next_pair,ha,h];rfl)
 |step h _ ih=>exact .step (by rw[next_pair,ha,h];rfl) ih
theorem Red.pair{a x b y:Tm}{n m:Nat}(h:Red a x n)(hb:Red b y m):Red (nT 10 [a,b]) (nT 10 [x,y]) (n+m):=by
 induction h with
 |done h=>rw[Nat.zero_add];exact Red.right h hb
 |step h _ ih=>rw[Nat.add_right_comm];exact .step (by rw[next_pair,h]) ih
mutual
def farT:Tm→Bool
 | .mk _ i _ xs=>decide (i>536870912)||farTs xs
def farTs:List Tm→Bool
 |[]=>false
 |x::l=>farT x||farTs l
end
def Dk.plain(d:Dk):Ty×Dk:=
 (if(d.next 6).1=0∨(d.next 6).1=1 then natT else if(d.next 6).1=2 then listT else if(d.next 6).1=3 then unitT else if(d.next 6).1=4 then twoT natT listT else twoT natT natT,(d.next 6).2)
@[simp] theorem Fm.kind_mk(k:Int)(h:Ty)(ts:List Tm)(as:List Fm):(Fm.mk k h ts as).kind=k:=rfl
@[simp] theorem Fm.ty_mk(k:Int)(h:Ty)(ts:List Tm)(as:List Fm):(Fm.mk k h ts as).ty=h:=rfl
@[simp] theorem Fm.terms_mk(k:Int)(h:Ty)(ts:List Tm)(as:List Fm):(Fm.mk k h ts as).terms=ts:=rfl
@[simp] theorem Fm.args_mk(k:Int)(h:Ty)(ts:List Tm)(as:List Fm):(Fm.mk k h ts as).args=as:=rfl
def quantK(k:Int):Bool:=decide (4≤k)&&decide (k≤7)
def Fm.head(f:Fm):Bool:=
 if f.kind=1 then f.ty.isNo&&f.terms.length==2&&f.args.length==0
 else if f.kind=2∨f.kind=3 then f.ty.isNo&&f.terms.length==0&&f.args.length==2
 else if f.kind=4∨f.kind=5∨f.kind=6∨f.kind=7 then f.ty.ok&&f.terms.length==0&&f.args.length==1 else false
mutual
def Fm.shape:Fm→Bool
 | .mk k h ts as=>Fm.head (.mk k h ts as)&&ts.all Tm.shape&&Fm.shapes as
def Fm.shapes:List Fm→Bool
 |[]=>true
 |f::l=>f.shape&&Fm.shapes l
end
mutual
def Fm.size:Fm→Nat
 | .mk _ _ ts as=>1+(ts.map Tm.size).sum+Fm.sizes as
def Fm.sizes:List Fm→Nat
 |[]=>0
 |f::l=>f.size+Fm.sizes l
end
mutual
def Fm.full:Fm→Nat
 | .mk _ h ts as=>1+h.size+(ts.map Tm.full).sum+Fm.fulls as
def Fm.fulls:List Fm→Nat
 |[]=>0
 |f::l=>f.full+Fm.fulls l
end
theorem Fm.shapes_eq:∀l:List Fm,Fm.shapes l=l.all Fm.shape
 |[]=>rfl
 |f::l=>by rw[Fm.shapes,Fm.shapes_eq l];rfl
theorem Fm.sizes_eq:∀l:List Fm,Fm.sizes l=(l.map Fm.size).sum
 |[]=>rfl
 |f::l=>by rw[Fm.sizes,Fm.sizes_eq l];rfl
theorem Fm.fulls_eq:∀l:List Fm,Fm.fulls l=(l.map Fm.full).sum
 |[]=>rfl
 |f::l=>by rw[Fm.fulls,Fm.fulls_eq l];rfl
theorem Fm.shape_eq(f:Fm):f.shape=(f.head&&f.terms.all Tm.shape&&f.args.all Fm.shape):=by cases f;simp only[Fm.shape,Fm.shapes_eq];rfl
theorem Fm.size_eq(f:Fm):f.size=1+(f.terms.map Tm.size).sum+(f.args.map Fm.size).sum:=by cases f;simp only[Fm.size,Fm.sizes_eq];rfl
theorem Fm.full_eq(f:Fm):f.full=1+f.ty.size+(f.terms.map Tm.full).sum+(f.args.map Fm.full).sum:=by cases f;simp only[Fm.full,Fm.fulls_eq];rfl
theorem Fm.full_pos(f:Fm):1≤f.full:=by rw[Fm.full_eq];omega
theorem Fm.size_pos(f:Fm):1≤f.size:=by rw[Fm.size_eq];omega
theorem Fm.ind{P:Fm→Prop}(h:∀f,(∀x∈f.args,P x)→P f)(f:Fm):P f:=by
 have:∀n,∀f:Fm,f.full≤n→P f:=by
  intro n
  induction n with
  |zero=>intro f h;have:=f.full_pos;omega
  |succ n ih=>
   intro f hf
   refine h f fun x hx=>ih x ?_
   have:=lsum_mem Fm.full hx
   have:=f.full_eq
   omega
 exact this _ f (Nat.le_refl _)
theorem Fm.size_le_full(f:Fm):f.size≤f.full:=by
 induction f using Fm.ind with
 |h f ih=>
  rw[f.size_eq,f.full_eq]
  have h1:=lsum_le (f:=Fm.size) (g:=Fm.full) f.args ih
  have h2:=lsum_le (f:=Tm.size) (g:=Tm.full) f.terms fun x _=>x.size_le_full
  omega
def Fm.nodes(f:Fm):Nat:=if f.shape then f.size else 0
def Fm.err(f:Fm):Int:=if f.shape=false then 2 else if f.size>4096 then 4 else 0
def Fm.num(f:Fm):Int:=if f.err=0 then f.size else 0
def noFm:Fm:= .mk 0 (.mk 0 []) [] []
def eqF(a b:Tm):Fm:= .mk 1 (.mk 0 []) [a,b] []
theorem eqF_shape{a b:Tm}(ha:a.shape=true)(hb:b.shape=true):(eqF a b).shape=true:=by
 rw[Fm.shape_eq];simp[eqF,Fm.head,ha,hb,Ty.isNo]
theorem eqF_size(a b:Tm):(eqF a b).size=1+(a.size+b.size):=by rw[Fm.size_eq];simp[eqF]
theorem Fm.err_iff(f:Fm):f.err=0↔f.shape=true∧f.size≤4096:=by
 unfold Fm.err
 cases hs:f.shape with
 |false=>simp
 |true=>
  by_cases h:f.size>4096
  ·rw [if_neg (by simp),if_pos h];constructor
   ·intro h;cases h
   ·rintro ⟨_,h2⟩;omega
  ·rw [if_neg (by simp),if_neg h];exact⟨fun _=>⟨rfl,by omega⟩,fun _=>rfl⟩
def twoF(k:Int)(a b:Fm):Fm:= .mk k (.mk 0 []) [] [a,b]
def quF(k:Int)(s:Ty)(f:Fm):Fm:= .mk k s [] [f]
def Dk.eqf(d:Dk)(g:List Ty):Fm×Dk:=(eqF (Dk.tm 3 d g natT).1 (Dk.tm 3 (Dk.tm 3 d g natT).2 g natT).1,(Dk.tm 3 (Dk.tm 3 d g natT).2 g natT).2)
def Dk.fm:Nat→Dk→List Ty→Fm×Dk
 |0,d,g=>d.eqf g
 |n+1,d,g=>
  if(d.next 9).1=0 then(twoF 2 (Dk.fm n (d.next 9).2 g).1 (Dk.fm n (Dk.fm n (d.next 9).2 g).2 g).1,(Dk.fm n (Dk.fm n (d.next 9).2 g).2 g).2)
  else if(d.next 9).1=1∨(d.next 9).1=2 then(twoF 3 (Dk.fm n (d.next 9).2 g).1 (Dk.fm n (Dk.fm n (d.next 9).2 g).2 g).1,(Dk.fm n (Dk.fm n (d.next 9).2 g).2 g).2)
  else if(d.next 9).1=3∨(d.next 9).1=4 then(quF 4 ((d.next 9).2.type 1).1 (Dk.fm n ((d.next 9).2.type 1).2 (g++[((d.next 9).2.type 1).1])).1,(Dk.fm n ((d.next 9).2.type 1).2 (g++[((d.next 9).2.type 1).1])).2)
  else if(d.next 9).1=5 then(quF 5 ((d.next 9).2.type 1).1 (Dk.fm n ((d.next 9).2.type 1).2 (g++[((d.next 9).2.type 1).1])).1,(Dk.fm n ((d.next 9).2.type 1).2 (g++[((d.next 9).2.type 1).1])).2)
  else if(d.next 9).1=6 then(quF (6+(((d.next 9).2.type 0).2.next 2).1) ((d.next 9).2.type 0).1 (Dk.fm n (((d.next 9).2.type 0).2.next 2).2 (g++[((d.next 9).2.type 0).1])).1,(Dk.fm n (((d.next 9).2.type 0).2.next 2).2 (g++[((d.next 9).2.type 0).1])).2)
  else(d.next 9).2.eqf g
theorem Dk.eqf_ok{d:Dk}{g:List Ty}(h:d.ok):(d.eqf g).2.ok:=Dk.tm_ok 3 _ g natT (Dk.tm_ok 3 d g natT h)
theorem Dk.fm_ok:∀(n:Nat) (d:Dk) (g:List Ty),d.ok→(Dk.fm n d g).2.ok:=by
 intro n
 induction n with
 |zero=>exact fun d g h=>Dk.eqf_ok h
 |succ n ih=>
  intro d g h
  have h9:=Dk.next_ok h 9
  simp only[Dk.fm]
  repeat' split
  ·exact ih _ _ (ih _ _ h9)
  ·exact ih _ _ (ih _ _ h9)
  ·exact ih _ _ (Dk.type_ok 1 _ h9)
  ·exact ih _ _ (Dk.type_ok 1 _ h9)
  ·exact ih _ _ (Dk.next_ok (Dk.type_ok 0 _ h9) 2)
  ·exact Dk.eqf_ok h9
theorem s1_3:s1 3≤60:=by decide
def FmOk(n:Nat)(f:Fm):Prop:=f.shape=true∧f.size+1≤122*2^n∧f.full+10≤1200*2^n
theorem Dk.eqf_good(d:Dk){g:List Ty}(hg:smalls g):FmOk 0 (d.eqf g).1:=by
 have m1:=Dk.tm_mk 3 d g natT hg small_nat (by omega) (by omega)
 have m2:=Dk.tm_mk 3 (Dk.tm 3 d g natT).2 g natT hg small_nat (by omega) (by omega)
 have z1:=(m1.size hg small_nat).2 rfl
 have z2:=(m2.size hg small_nat).2 rfl
 have f1:=m1.full hg small_nat
 have f2:=m2.full hg small_nat
 have h3:=s1_3
 refine⟨eqF_shape (m1.shape hg small_nat) (m2.shape hg small_nat),?_,?_⟩
 ·show (eqF _ _).size+1≤_
  rw[eqF_size];omega
 ·show (eqF _ _).full+10≤_
  rw[Fm.full_eq]
  simp only[eqF,Fm.ty_mk,Fm.terms_mk,Fm.args_mk,List.map_cons,List.map_nil,List.sum_cons,List.sum_nil,Ty.size,Ty.sizes];omega
theorem twoF_good{n:Nat}{k:Int}{a b:Fm}(hk:k=2∨k=3)(ha:FmOk n a)(hb:FmOk n b):FmOk (n+1) (twoF k a b):=by
 obtain⟨a1,a2,a3⟩:=ha
 obtain⟨b1,b2,b3⟩:=hb
 refine⟨?_,?_,?_⟩
 ·rw [Fm.shape_eq]
  rcases hk with rfl|rfl<;>simp[twoF,Fm.head,a1,b1,Ty.isNo]
 ·rw [Fm.size_eq,Nat.pow_succ]
  simp only[twoF,Fm.terms_mk,Fm.args_mk,List.map_cons,List.map_nil,List.sum_cons,List.sum_nil];omega
 ·rw [Fm.full_eq,Nat.pow_succ]
  have:1≤2^n:=Nat.one_le_two_pow
  simp only[twoF,Fm.ty_mk,Fm.terms_mk,Fm.args_mk,List.map_cons,List.map_nil,List.sum_cons,List.sum_nil,Ty.size,Ty.sizes];omega
theorem quF_good{n:Nat}{k:Int}{s:Ty}{f:Fm}(hk:4≤k∧k≤7)(hs:s.small)(hf:FmOk n f):FmOk (n+1) (quF k s f):=by
 obtain⟨a1,a2,a3⟩:=hf
 have hz:=hs.2
 have:1≤2^n:=Nat.one_le_two_pow
 refine⟨?_,?_,?_⟩
 ·rw [Fm.shape_eq]
  have h4:k=4∨k=5∨k=6∨k=7:=by omega
  rcases h4 with rfl|rfl|rfl|rfl<;>simp[quF,Fm.head,a1,small_ok hs]
 ·rw [Fm.size_eq,Nat.pow_succ]
  simp only[quF,Fm.terms_mk,Fm.args_mk,List.map_cons,List.map_nil,List.sum_cons,List.sum_nil];omega
 ·rw [Fm.full_eq,Nat.pow_succ]
  simp only[quF,Fm.ty_mk,Fm.terms_mk,Fm.args_mk,List.map_cons,List.map_nil,List.sum_cons,List.sum_nil];omega
theorem FmOk.up{n:Nat}{f:Fm}(h:FmOk 0 f):FmOk (n+1) f:=by
 obtain⟨a1,a2,a3⟩:=h
 have:1≤2^(n+1):=Nat.one_le_two_pow
 exact⟨a1,by omega,by omega⟩
theorem Dk.fm_good:∀(n:Nat) (d:Dk) (g:List Ty),smalls g→FmOk n (Dk.fm n d g).1:=by
 intro n
 induction n with
 |zero=>exact fun d g hg=>Dk.eqf_good d hg
 |succ n ih=>
  intro d g hg
  have h2:=Dk.next_bd (((d.next 9).2.type 0).2) 2 (by omega)
  have s1:=Dk.type1 (d.next 9).2
  have s0:=Dk.type0 (d.next 9).2
  have s0':=small_one s0.1 s0.2
  simp only[Dk.fm]
  repeat' split
  ·exact twoF_good (.inl rfl) (ih _ _ hg) (ih _ _ hg)
  ·exact twoF_good (.inr rfl) (ih _ _ hg) (ih _ _ hg)
  ·exact quF_good ⟨by omega,by omega⟩ s1 (ih _ _ (smalls_app hg (smalls_cons s1 smalls_nil)))
  ·exact quF_good ⟨by omega,by omega⟩ s1 (ih _ _ (smalls_app hg (smalls_cons s1 smalls_nil)))
  ·exact quF_good ⟨by omega,by omega⟩ s0' (ih _ _ (smalls_app hg (smalls_cons s0' smalls_nil)))
  ·exact (Dk.eqf_good _ hg).up
def quFs(qs:List (Int×Ty))(f:Fm):Fm:=qs.foldr (fun q f=>quF q.1 q.2 f) f
def imFs(ps:List Fm)(c:Fm):Fm:=ps.foldr (twoF 3) c
theorem Ty.no_of{t:Ty}(h:t.isNo=true):t= .mk 0 []:=by
 obtain⟨k,as⟩:=t
 simp only[Ty.isNo,Ty.kind,Ty.args,Bool.and_eq_true,beq_iff_eq,List.length_eq_zero_iff] at h
 rw[h.1,h.2]
def upF(k b:Int):Int:=if quantK k=true then b+1 else b
mutual
def Fm.tms(b:Int):Fm→List (Tm×Int)
 | .mk k _ ts as=>ts.map (fun t=>(t,b))++Fm.tmss (upF k b) as
def Fm.tmss(b:Int):List Fm→List (Tm×Int)
 |[]=>[]
 |f::l=>f.tms b++Fm.tmss b l
end
mutual
def Fm.re(g:Int→Tm→Tm)(b:Int):Fm→Fm
 | .mk k h ts as=> .mk k h (ts.map (g b)) (Fm.res g (upF k b) as)
def Fm.res(g:Int→Tm→Tm)(b:Int):List Fm→List Fm
 |[]=>[]
 |f::l=>f.re g b::Fm.res g b l
end
theorem Fm.tmss_eq(b:Int):∀l:List Fm,Fm.tmss b l=l.flatMap (Fm.tms b)
 |[]=>rfl
 |f::l=>by rw[Fm.tmss,Fm.tmss_eq b l,List.flatMap_cons]
theorem Fm.res_eq(g:Int→Tm→Tm)(b:Int):∀l:List Fm,Fm.res g b l=l.map (Fm.re g b)
 |[]=>rfl
 |f::l=>by rw[Fm.res,Fm.res_eq g b l,List.map_cons]
theorem Fm.tms_eq(b:Int)(f:Fm):f.tms b=f.terms.map (fun t=>(t,b))++f.args.flatMap (Fm.tms (upF f.kind b)):=by cases f;simp only[Fm.tms,Fm.tmss_eq];rfl
theorem Fm.re_eq(g:Int→Tm→Tm)(b:Int)(f:Fm):f.re g b= .mk f.kind f.ty (f.terms.map (g b)) (f.args.map (Fm.re g (upF f.kind b))):=by cases f;simp only[Fm.re,Fm.res_eq];rfl
def cntF(at_:Int):List (Tm×Int)→Nat
 |[]=>0
 |p::l=>cnt (at_+p.2) (p.1.vars 0)+cntF at_ l
theorem cntF_append(at_:Int):∀l l':List (Tm×Int),cntF at_ (l++l')=cntF at_ l+cntF at_ l'
 |[],l'=>by simp[cntF]
 |p::l,l'=>by simp only[List.cons_append,cntF,cntF_append at_ l l'];omega
theorem cntF_le(at_:Int):∀l:List (Tm×Int),cntF at_ l≤(l.map fun p=>p.1.size).sum
 |[]=>Nat.le_refl _
 |p::l=>by
  have h1:=cnt_le (at_+p.2) (p.1.vars 0)
  have h2:=p.1.vars_len 0
  have h3:=cntF_le at_ l
  simp only[cntF,List.map_cons,List.sum_cons];omega
theorem tms_size(f:Fm):∀b,((f.tms b).map fun p=>p.1.size).sum+1≤f.size:=by
 induction f using Fm.ind with
 |h f ih=>
  intro b
  rw[Fm.tms_eq,Fm.size_eq]
  have h1:∀l:List Fm,(∀x∈l,∀b,((x.tms b).map fun p=>p.1.size).sum+1≤x.size)→((l.flatMap (Fm.tms (upF f.kind b))).map fun p=>p.1.size).sum≤(l.map Fm.size).sum:=by
   intro l
   induction l with
   |nil=>intro _;simp
   |cons x l ih2=>
    intro h
    have h2:=ih2 fun y hy=>h y (by simp[hy])
    have h3:=h x (by simp) (upF f.kind b)
    simp only[List.flatMap_cons,List.map_append,List.sum_append,List.map_cons,List.sum_cons];omega
  have h2:=h1 f.args ih
  have h3:((f.terms.map fun t=>(t,b)).map fun p=>p.1.size)=f.terms.map Tm.size:=by simp[Function.comp_def]
  rw[List.map_append,List.sum_append,h3];omega
theorem tms_le1(f:Fm)(b:Int)(m:Nat):(((f.terms.take m).map fun t=>(t,b)).map fun p:Tm×Int=>p.1.size).sum≤f.size:=by
 have h1:=lsum_take_le Tm.size f.terms m
 have h3:(((f.terms.take m).map fun t=>(t,b)).map fun p:Tm×Int=>p.1.size)=(f.terms.take m).map Tm.size:=by simp[Function.comp_def]
 rw[h3,Fm.size_eq];omega
theorem tms_flat(b:Int)(l:List Fm):((l.flatMap (Fm.tms b)).map fun p:Tm×Int=>p.1.size).sum≤(l.map Fm.size).sum:=by
 induction l with
 |nil=>simp
 |cons x l ih=>
  have h3:=tms_size x b
  simp only[List.flatMap_cons,List.map_append,List.sum_append,List.map_cons,List.sum_cons];omega
theorem tms_le2(f:Fm)(b:Int)(m:Nat)(h:m<f.args.length):((f.terms.map (fun t=>(t,b))++(f.args.take m).flatMap (Fm.tms (upF f.kind b))).map fun p:Tm×Int=>p.1.size).sum+(f.args[m]).size≤f.size:=by
 have h1:=tms_flat (upF f.kind b) (f.args.take m)
 have h2:=lsum_take Fm.size f.args m h
 have h4:=lsum_take_le Fm.size f.args (m+1)
 have h3:((f.terms.map fun t=>(t,b)).map fun p:Tm×Int=>p.1.size)=f.terms.map Tm.size:=by simp[Function.comp_def]
 have e:=f.size_eq
 rw[List.map_append,List.sum_append,h3];omega
theorem tms_shape(f:Fm):f.shape=true→∀b,∀p∈f.tms b,p.1.shape=true:=by
 induction f using Fm.ind with
 |h f ih=>
  intro hs b p hp
  rw[Fm.shape_eq,Bool.and_eq_true,Bool.and_eq_true] at hs
  rw[Fm.tms_eq,List.mem_append] at hp
  rcases hp with hp|hp
  ·obtain ⟨t,ht,rfl⟩:=List.mem_map.1 hp
   exact List.all_eq_true.1 hs.1.2 t ht
  ·obtain ⟨x,hx,hp⟩:=List.mem_flatMap.1 hp
   exact ih x hx (List.all_eq_true.1 hs.2 x hx) _ p hp
def Tm.nearE(t:Tm):Bool:=(t.vars 0).all fun p=>decide (p.1≤268435456)
def allP(P:Tm→Bool)(b:Bool)(l:List (Tm×Int)):Bool:=b&&l.all fun p=>P p.1
theorem allP_append(P:Tm→Bool)(b:Bool)(l l':List (Tm×Int)):allP P (allP P b l) l'=allP P b (l++l'):=by simp[allP,Bool.and_assoc]
theorem allP_one(P:Tm→Bool)(b:Bool)(t:Tm)(i:Int):allP P b [(t,i)]=(b&&P t):=by simp[allP]
theorem allP_nil(P:Tm→Bool)(b:Bool):allP P b []=b:=by simp[allP]
def Fm.near(f:Fm):Bool:=(f.tms 0).all fun p=>p.1.near
def Fm.nearE(f:Fm):Bool:=(f.tms 0).all fun p=>p.1.nearE
def Fm.put(f:Fm)(at_:Int)(s:Tm):Fm:=f.re (fun b t=>t.re (putG (at_+b) s) 0) 0
def putFErr(f:Fm)(at_:Int)(s:Tm):Int:=
 if f.err≠0 then f.err else if ¬(0≤at_∧at_≤4096) then 1 else if s.err≠0 then s.err else if f.near=false∨s.near=false then 1 else if(f.size:Int)+cntF at_ (f.tms 0)*(s.size-1)>4096 then 4 else 0
def fillF(n:Int):List Tm→Int→Fm→Fm×Int
 |[],_,f=>(f,0)
 |t::l,k,f=>
  if liftErr t 0 (n-1-k)≠0 then(noFm,liftErr t 0 (n-1-k))
  else if putFErr f 0 (t.re (liftG 0 (n-1-k)) 0)≠0 then(noFm,putFErr f 0 (t.re (liftG 0 (n-1-k)) 0))
  else fillF n l (k+1) (f.put 0 (t.re (liftG 0 (n-1-k)) 0))
def fill(p:Fm)(l:List Tm):Fm×Int:=if p.err≠0 then(noFm,p.err) else if 16<l.length then(noFm,1) else fillF l.length l 0 p
theorem tfull_le(t:Tm):t.shape=true→t.full≤65*t.size:=by
 induction t using Tm.ind with
 |h t ih=>
  intro hs
  rw[Tm.shape_eq,Bool.and_eq_true] at hs
  have h0:t.ty.size≤64:=by
   have:=hs.1
   simp only[Tm.head,Bool.and_eq_true] at this
   have h1:=this.2
   cases hk:typedK t.kind with
   |true=>rw[hk] at h1;simp only[cond_true,Ty.ok,Bool.and_eq_true,decide_eq_true_eq] at h1;exact h1.2
   |false=>
    rw[hk] at h1
    have:=Ty.no_of (show t.ty.isNo=true from h1)
    rw[this];decide
  have h1:∀l:List Tm,(∀x∈l,x∈t.args)→(l.map Tm.full).sum≤65*(l.map Tm.size).sum:=by
   intro l
   induction l with
   |nil=>intro _;simp
   |cons x l ih2=>
    intro h
    have h2:=ih2 fun y hy=>h y (by simp[hy])
    have hx:=h x (by simp)
    have h3:=ih x hx (List.all_eq_true.1 hs.2 x hx)
    simp only[List.map_cons,List.sum_cons];omega
  have h2:=h1 t.args fun _ h=>h
  rw[Tm.full_eq,Tm.size_eq];omega
theorem ffull_le(f:Fm):f.shape=true→f.full≤65*f.size:=by
 induction f using Fm.ind with
 |h f ih=>
  intro hs
  rw[Fm.shape_eq,Bool.and_eq_true,Bool.and_eq_true] at hs
  obtain⟨⟨hh,ht⟩,ha⟩:=hs
  have h0:f.ty.size≤64:=by
   simp only[Fm.head] at hh
   split at hh
   ·simp only[Bool.and_eq_true] at hh;rw[Ty.no_of hh.1.1];decide
   ·split at hh
    ·simp only[Bool.and_eq_true] at hh;rw[Ty.no_of hh.1.1];decide
    ·split at hh
     ·simp only[Bool.and_eq_true,Ty.ok,decide_eq_true_eq] at hh;exact hh.1.1.2
     ·cases hh
  have h1:∀l:List Fm,(∀x∈l,x∈f.args)→(l.map Fm.full).sum≤65*(l.map Fm.size).sum:=by
   intro l
   induction l with
   |nil=>intro _;simp
   |cons x l ih2=>
    intro h
    have h2:=ih2 fun y hy=>h y (by simp[hy])
    have hx:=h x (by simp)
    have h3:=ih x hx (List.all_eq_true.1 ha x hx)
    simp only[List.map_cons,List.sum_cons];omega
  have h2:∀l:List Tm,(∀x∈l,x∈f.terms)→(l.map Tm.full).sum≤65*(l.map Tm.size).sum:=by
   intro l
   induction l with
   |nil=>intro _;simp
   |cons x l ih2=>
    intro h
    have h2:=ih2 fun y hy=>h y (by simp[hy])
    have hx:=h x (by simp)
    have h3:=tfull_le x (List.all_eq_true.1 ht x hx)
    simp only[List.map_cons,List.sum_cons];omega
  have h3:=h1 f.args fun _ h=>h
  have h4:=h2 f.terms fun _ h=>h
  rw[Fm.full_eq,Fm.size_eq];omega
theorem ferr_full{f:Fm}(h:f.err=0):f.full≤266240:=by
 have h1:=(Fm.err_iff f).1 h
 have:=ffull_le f h1.1
 omega
theorem terr_full{t:Tm}(h:t.err=0):t.full≤266240:=by
 have h1:=err_zero h
 have:=tfull_le t h1.1
 omega
theorem nearF_lt{f:Fm}(h:f.err=0)(hn:f.near=true):∀p∈f.tms 0,∀q∈p.1.vars 0,0≤q.1∧q.1<549755813888:=fun p hp q hq=>by
 have h1:p.1.shape=true:=tms_shape f ((Fm.err_iff f).1 h).1 0 p hp
 have h2:=List.all_eq_true.1 hn p hp
 have h3:=List.all_eq_true.1 h2 q hq
 simp at h3
 exact⟨p.1.vars_nonneg h1 0 q hq,by omega⟩
theorem fnum_le(f:Fm):0≤f.num∧f.num≤4096:=by
 simp only[Fm.num];split
 ·rename_i h;have:=((Fm.err_iff f).1 h).2;omega
 ·omega
mutual
def Fm.same:Fm→Fm→Bool
 | .mk k h ts xs,.mk k' h' ts' ys=>k==k'&&decide (h=h')&&decide (ts=ts')&&Fm.sames xs ys
def Fm.sames:List Fm→List Fm→Bool
 |[],[]=>true
 |x::xs,y::ys=>x.same y&&Fm.sames xs ys
 |_,_=>false
end
mutual
theorem Fm.same_iff:∀a b:Fm,a.same b=true↔a=b
 | .mk k h ts xs,.mk k' h' ts' ys=>by simp only[Fm.same,Bool.and_eq_true,beq_iff_eq,decide_eq_true_eq,Fm.mk.injEq,Fm.sames_iff xs ys,and_assoc]
theorem Fm.sames_iff:∀a b:List Fm,Fm.sames a b=true↔a=b
 |[],[]=>by simp[Fm.sames]
 |x::xs,y::ys=>by simp only[Fm.sames,Bool.and_eq_true,List.cons.injEq,Fm.same_iff x y,Fm.sames_iff xs ys]
 |[],_::_=>by simp[Fm.sames]
 |_::_,[]=>by simp[Fm.sames]
end
instance:DecidableEq Fm:=fun a b=>decidable_of_iff _ (Fm.same_iff a b)
theorem re_congr{g g':Int→Int→Tm}(t:Tm):∀b,(∀p∈t.vars b,g p.1 p.2=g' p.1 p.2)→t.re g b=t.re g' b:=by
 induction t using Tm.ind with
 |h t ih=>
  intro b h
  by_cases h1:t.kind=1
  ·rw [re_var h1,re_var h1]
   exact h (t.index,b) (by rw[t.vars_eq,if_pos h1];simp)
  ·rw [re_node h1,re_node h1]
   congr 1
   exact List.map_congr_left fun x hx=>ih x hx _ fun p hp=>h p (mem_vars h1 hx hp)
def lowI:Nat→Tm→Tm
 |0,t=>t
 |n+1,t=>(lowI n t).re (putG 0 noTm) 0
def low(n:Nat)(t:Tm):Tm×Bool:=if ∀j,j<n→cnt 0 ((lowI j t).vars 0)=0 then(lowI n t,true) else(noTm,false)
abbrev FMap:=List (Int×Tm)
mutual
def mT(h b:Int):Tm→Tm→FMap→Bool×FMap
 | .mk k i ty as,t,m=>
   if k=1∧0≤i-b∧i-b<h then
    (if(i-b)∈m.map (·.1) then(true,m) else((low b.toNat t).2,m++[(i-b,(low b.toNat t).1)]))
   else if k=t.kind∧ty=t.ty then
    (if k=1 then(decide ((if b≤i then i-h else i)=t.index),m) else mTs h (up k b) as t.args m)
   else(false,m)
def mTs(h b:Int):List Tm→List Tm→FMap→Bool×FMap
 |[],_,m=>(true,m)
 |_::_,[],m=>(false,m)
 |p::ps,t::ts,m=>match mT h b p t m with|(true,m')=>mTs h b ps ts m'|(false,m')=>(false,m')
end
mutual
def mF(h b:Int):Fm→Fm→FMap→Bool×FMap
 | .mk k ty ts as,f,m=>
   if k=f.kind∧ty=f.ty then(match mTs h b ts f.terms m with|(true,m')=>mFs h (upF k b) as f.args m'|(false,m')=>(false,m'))
   else(false,m)
def mFs(h b:Int):List Fm→List Fm→FMap→Bool×FMap
 |[],_,m=>(true,m)
 |_::_,[],m=>(false,m)
 |p::ps,f::fs,m=>match mF h b p f m with|(true,m')=>mFs h b ps fs m'|(false,m')=>(false,m')
end
theorem vars_idx{t:Tm}:∀{b b':Int},∀q∈t.vars b,∃q'∈t.vars b',q'.1=q.1:=by
 induction t using Tm.ind with
 |h t ih=>
  intro b b' q hq
  rw[Tm.vars_eq,List.mem_append] at hq
  rcases hq with hq|hq
  ·by_cases h1:t.kind=1
   ·rw [if_pos h1,List.mem_singleton] at hq
    exact⟨(t.index,b'),by rw[Tm.vars_eq,if_pos h1];simp,by rw[hq]⟩
   ·rw [if_neg h1] at hq;cases hq
  ·obtain ⟨x,hx,hq⟩:=List.mem_flatMap.1 hq
   obtain⟨q',h1,h2⟩:=ih x hx (b':=up t.kind b') q hq
   exact⟨q',by rw[Tm.vars_eq];exact List.mem_append_right _ (List.mem_flatMap.2 ⟨x,hx,h1⟩),h2⟩
theorem fshape_args{f x:Fm}(h:f.shape=true)(hx:x∈f.args):x.shape=true:=by
 rw[Fm.shape_eq,Bool.and_eq_true] at h
 exact List.all_eq_true.1 h.2 x hx
theorem fshape_terms{f:Fm}(h:f.shape=true){t:Tm}(ht:t∈f.terms):t.shape=true:=by
 rw[Fm.shape_eq,Bool.and_eq_true,Bool.and_eq_true] at h
 exact List.all_eq_true.1 h.1.2 t ht
theorem putFErr_zero{f:Fm}{at_:Int}{s:Tm}(h:putFErr f at_ s=0):f.err=0∧s.err=0∧f.near=true∧s.near=true∧(f.size:Int)+cntF at_ (f.tms 0)*(s.size-1)≤4096:=by
 simp only[putFErr] at h
 split at h
 ·rename_i h1;exact absurd h h1
 ·rename_i h1
  split at h
  ·omega
  ·split at h
   ·rename_i h2;exact absurd h h2
   ·rename_i h2
    split at h
    ·omega
    ·rename_i h3
     split at h
     ·omega
     ·rename_i h4
      refine⟨Classical.not_not.1 h1,Classical.not_not.1 h2,?_,?_,by omega⟩
      ·cases hn:f.near with
       |true=>rfl
       |false=>exact absurd (.inl hn) h3
      ·cases hn:s.near with
       |true=>rfl
       |false=>exact absurd (.inr hn) h3
def lookT:FMap→Int→Option Tm
 |[],_=>none
 |p::m,k=>if p.1=k then some p.2 else lookT m k
def zeroT:Tm:= .mk 4 0 (.mk 0 []) []
def outs(m:FMap)(n:Nat):List Tm:=(List.range n).map fun k:Nat=>(lookT m (k:Int)).getD zeroT
def matchF(p:Fm)(h:Int)(f:Fm):List Tm×Int:=
 if p.err≠0 then([],p.err) else if f.err≠0 then([],f.err) else if ¬(0≤h∧h≤16)∨p.nearE=false∨f.nearE=false then([],1)
 else if(mF h 0 p f []).1=false then([],11)
 else if(fill p (outs (mF h 0 p f []).2 h.toNat)).2≠0∨(fill p (outs (mF h 0 p f []).2 h.toNat)).1≠f then([],11)
 else if((mF h 0 p f []).2.length:Int)<h then([],13) else(outs (mF h 0 p f []).2 h.toNat,0)
theorem re_re(g g':Int→Int→Tm)(t:Tm):∀b,(t.re g b).re g' b=t.re (fun i c=>(g i c).re g' c) b:=by
 induction t using Tm.ind with
 |h t ih=>
  intro b
  by_cases h1:t.kind=1
  ·rw [re_var h1,re_var h1]
  ·rw [re_node h1,re_node h1,re_node (t:=Tm.mk _ _ _ _) (by simpa using h1)]
   simp only[Tm.kind_mk,Tm.index_mk,Tm.ty_mk,Tm.args_mk,List.map_map]
   congr 1
   exact List.map_congr_left fun x hx=>ih x hx _
theorem vars_re(g:Int→Int→Tm)(t:Tm):∀b,t.shape=true→(t.re g b).vars b=(t.vars b).flatMap fun p=>(g p.1 p.2).vars p.2:=by
 induction t using Tm.ind with
 |h t ih=>
  intro b hs
  by_cases h1:t.kind=1
  ·rw [re_var h1,vars_var hs h1];simp
  ·rw [re_node h1,vars_node h1,vars_node (t:=Tm.mk _ _ _ _) (by simpa using h1)]
   simp only[Tm.kind_mk,Tm.args_mk,List.flatMap_assoc,List.flatMap_map]
   have:∀l:List Tm,(∀x∈l,x∈t.args)→l.flatMap (fun x=>(x.re g (up t.kind b)).vars (up t.kind b))=l.flatMap fun x=>(x.vars (up t.kind b)).flatMap fun p=>(g p.1 p.2).vars p.2:=by
    intro l
    induction l with
    |nil=>intro _;rfl
    |cons x l ihl=>
     intro h
     rw[List.flatMap_cons,List.flatMap_cons,ihl fun y hy=>h y (by simp[hy]),ih x (h x (by simp)) _ (shape_args hs x (h x (by simp)))]
   exact this t.args fun _ h=>h
theorem up_add(k b c:Int):up k (b+c)=up k b+c:=by simp only[up];split<;>omega
theorem vars_shift(t:Tm):∀b c:Int,t.vars (b+c)=(t.vars b).map fun p=>(p.1,p.2+c):=by
 induction t using Tm.ind with
 |h t ih=>
  intro b c
  rw[t.vars_eq,t.vars_eq,List.map_append,up_add]
  congr 1
  ·split<;>rfl
  ·rw [List.map_flatMap]
   have:∀l:List Tm,(∀x∈l,x∈t.args)→l.flatMap (Tm.vars (up t.kind b+c))=l.flatMap fun x=>(x.vars (up t.kind b)).map fun p=>(p.1,p.2+c):=by
    intro l
    induction l with
    |nil=>intro _;rfl
    |cons x l ihl=>
     intro h
     rw[List.flatMap_cons,List.flatMap_cons,ihl fun y hy=>h y (by simp[hy]),ih x (h x (by simp))]
   exact this t.args fun _ h=>h
theorem re_shift(g:Int→Int→Tm)(c:Int)(t:Tm):∀b,t.re g (b+c)=t.re (fun i d=>g i (d+c)) b:=by
 induction t using Tm.ind with
 |h t ih=>
  intro b
  by_cases h1:t.kind=1
  ·rw [re_var h1,re_var h1]
  ·rw [re_node h1,re_node h1,up_add]
   congr 1
   exact List.map_congr_left fun x hx=>ih x hx _
theorem re_shift0(g:Int→Int→Tm)(c:Int)(t:Tm):t.re g c=t.re (fun i d=>g i (d+c)) 0:=by
 have:=re_shift g c t 0
 rwa [Int.zero_add] at this
theorem re_vT(j:Int)(g:Int→Int→Tm)(c:Int):(vT j).re g c=g j c:=by rw[re_var (show(vT j).kind=1 from rfl)];rfl
theorem vars_vT(j c:Int):(vT j).vars c=[(j,c)]:=by simp[vT,Tm.vars,Tm.varss]
theorem liftG_eq(fr by_ i b:Int):liftG fr by_ i b=vT (if i-b≥fr then i+by_ else i):=rfl
theorem putG_eq(at_:Int)(s:Tm)(i b:Int):putG at_ s i b=if i-b=at_ then s.re (liftG 0 (at_+b)) 0 else vT (if i-b>at_ then i-1 else i):=rfl
theorem re_id{g:Int→Int→Tm}(t:Tm):∀b,t.shape=true→(∀p∈t.vars b,g p.1 p.2=vT p.1)→t.re g b=t:=by
 induction t using Tm.ind with
 |h t ih=>
  intro b hs hg
  by_cases h1:t.kind=1
  ·rw [re_var h1]
   have h2:=hg (t.index,b) (by rw[vars_var hs h1];simp)
   rw[h2]
   exact(var_vT hs h1).symm
  ·rw [re_node h1]
   have h2:t.args.map (Tm.re g (up t.kind b))=t.args:=by
    conv=>rhs;rw[←List.map_id t.args]
    exact List.map_congr_left fun x hx=>ih x hx _ (shape_args hs x hx) fun p hp=>hg p (mem_vars h1 hx hp)
   rw[h2];cases t;rfl
theorem lift_vars(fr by_:Int)(t:Tm)(b:Int)(hs:t.shape=true):(t.re (liftG fr by_) b).vars b=(t.vars b).map fun p=>(if p.1-p.2≥fr then p.1+by_ else p.1,p.2):=by
 rw[vars_re _ _ _ hs]
 simp only[liftG_eq,vars_vT]
 rw[List.map_eq_flatMap]
theorem lift_lift(t:Tm)(a b:Int)(ha:0≤a):(t.re (liftG 0 a) 0).re (liftG 0 b) 0=t.re (liftG 0 (a+b)) 0:=by
 rw[re_re]
 refine re_congr t 0 fun p hp=> ?_
 simp only[liftG_eq,re_vT]
 congr 1
 by_cases h:p.1-p.2≥0
 ·rw [if_pos h,if_pos (by omega),if_pos h];omega
 ·rw [if_neg h,if_neg h,if_neg h]
def simG(l:List Tm)(i b:Int):Tm:=if i<b then vT i else if i-b<l.length then(l.getD (i-b).toNat noTm).re (liftG 0 b) 0 else vT (i-l.length)
def simT(l:List Tm)(b:Int)(t:Tm):Tm:=t.re (simG l) b
theorem Fm.re_congr{G G':Int→Tm→Tm}(f:Fm):∀b,(∀p∈f.tms b,G p.2 p.1=G' p.2 p.1)→f.re G b=f.re G' b:=by
 induction f using Fm.ind with
 |h f ih=>
  intro b h
  rw[Fm.re_eq,Fm.re_eq]
  congr 1
  ·exact List.map_congr_left fun x hx=>h (x,b) (by rw[Fm.tms_eq];exact List.mem_append_left _ (List.mem_map.2 ⟨x,hx,rfl⟩))
  ·exact List.map_congr_left fun x hx=>ih x hx _ fun p hp=>h p (by rw[Fm.tms_eq];exact List.mem_append_right _ (List.mem_flatMap.2 ⟨x,hx,hp⟩))
theorem upF_le(k b:Int):b≤upF k b∧upF k b≤b+1:=by simp only[upF];split<;>omega
theorem tms_snd{f:Fm}:∀{b:Int},∀p∈f.tms b,b≤p.2:=by
 induction f using Fm.ind with
 |h f ih=>
  intro b p hp
  rw[Fm.tms_eq,List.mem_append] at hp
  rcases hp with hp|hp
  ·obtain ⟨t,_,rfl⟩:=List.mem_map.1 hp;exact Int.le_refl _
  ·obtain ⟨x,hx,hp⟩:=List.mem_flatMap.1 hp
   have:=ih x hx p hp
   have:=upF_le f.kind b
   omega
def Fm.sim(l:List Tm)(b:Int)(f:Fm):Fm:=f.re (simT l) b
theorem fput_shape{f:Fm}{at_:Int}{s:Tm}(ha:0≤at_)(hs:s.shape=true)(hf:f.shape=true):(f.put at_ s).shape=true:=by
 have key:∀(f:Fm) (b:Int),0≤b→f.shape=true→(f.re (fun b t=>t.re (putG (at_+b) s) 0) b).shape=true:=by
  intro f
  induction f using Fm.ind with
  |h f ih=>
   intro b hb hf
   have h0:=hf
   rw[Fm.shape_eq,Bool.and_eq_true,Bool.and_eq_true] at h0
   obtain⟨⟨h1,h2⟩,h3⟩:=h0
   rw[Fm.re_eq,Fm.shape_eq,Bool.and_eq_true,Bool.and_eq_true]
   refine⟨⟨?_,?_⟩,?_⟩
   ·simp only[Fm.head,Fm.kind_mk,Fm.ty_mk,Fm.terms_mk,Fm.args_mk,List.length_map] at h1 ⊢
    exact h1
   ·rw [Fm.terms_mk,List.all_eq_true]
    intro y hy
    obtain⟨x,hx,rfl⟩:=List.mem_map.1 hy
    exact put_shape 0 hs (List.all_eq_true.1 h2 x hx) (by omega) (by omega) fun p hp=>vars_snd x 0 p hp
   ·rw [Fm.args_mk,List.all_eq_true]
    intro y hy
    obtain⟨x,hx,rfl⟩:=List.mem_map.1 hy
    have:=upF_le f.kind b
    exact ih x hx _ (by omega) (List.all_eq_true.1 h3 x hx)
 exact key f 0 (by omega) hf
def NewK(h:Int)(vs:List (Int×Int))(m m':FMap):Prop:=∀k,k∈m'.map (·.1)↔k∈m.map (·.1)∨(0≤k∧k<h∧∃q∈vs,q.1-q.2=k)
theorem NewK.none{h:Int}{m:FMap}{vs:List (Int×Int)}(hv:∀q∈vs,¬(0≤q.1-q.2∧q.1-q.2<h)):NewK h vs m m:=fun k=>by
 constructor
 ·exact fun h=> .inl h
 ·rintro (h1|⟨h1,h2,q,hq,rfl⟩)
  ·exact h1
  ·exact absurd ⟨h1,h2⟩ (hv q hq)
theorem NewK.app{h:Int}{m m' m'':FMap}{vs vs':List (Int×Int)}(h1:NewK h vs m m')(h2:NewK h vs' m' m''):NewK h (vs++vs') m m'':=fun k=>by
 rw[h2 k,h1 k]
 constructor
 ·rintro ((h3|⟨h3,h4,q,hq,h5⟩)|⟨h3,h4,q,hq,h5⟩)
  ·exact .inl h3
  ·exact .inr ⟨h3,h4,q,List.mem_append_left _ hq,h5⟩
  ·exact .inr ⟨h3,h4,q,List.mem_append_right _ hq,h5⟩
 ·rintro (h3|⟨h3,h4,q,hq,h5⟩)
  ·exact .inl (.inl h3)
  ·rcases List.mem_append.1 hq with hq|hq
   ·exact .inl (.inr ⟨h3,h4,q,hq,h5⟩)
   ·exact .inr ⟨h3,h4,q,hq,h5⟩
def varsL(l:List (Tm×Int)):List (Int×Int):=l.flatMap fun q=>q.1.vars q.2
theorem varsL_app(l l':List (Tm×Int)):varsL (l++l')=varsL l++varsL l':=by simp[varsL]
def GoodM(l:List Tm)(m:FMap):Prop:=(m.map (·.1)).Nodup∧∀q∈m,0≤q.1∧q.1<l.length∧q.2=l.getD q.1.toNat noTm
theorem nodup_len(n:Nat):∀(l:List Int),l.Nodup→(∀k∈l,0≤k∧k<n)→l.length≤n∧((∀k:Nat,k<n→(k:Int)∈l)↔l.length=n):=by
 induction n with
 |zero=>
  intro l _ h
  cases l with
  |nil=>simp
  |cons x l=>have:=h x (by simp);omega
 |succ n ih=>
  intro l hn h
  have h1:(l.filter (·≠(n:Int))).Nodup:=hn.filter _
  have h2:=ih _ h1 fun k hk=>by
   rw[List.mem_filter] at hk
   have:=h k hk.1
   have h3:k≠(n:Int):=by simpa using hk.2
   omega
  have hcount:l.length=(l.filter (·≠(n:Int))).length+(if(n:Int)∈l then 1 else 0):=by
   clear h2 h1 ih h
   induction l with
   |nil=>simp
   |cons x l ihl=>
    rw[List.nodup_cons] at hn
    have:=ihl hn.2
    by_cases hx:x=(n:Int)
    ·subst hx
     rw[if_neg hn.1] at this
     simp at this ⊢;omega
    ·have e:((n:Int)∈x::l)↔(n:Int)∈l:=by simp[Ne.symm hx]
     simp only[e,List.length_cons,List.filter_cons,ne_eq,hx,not_false_eq_true,decide_true,if_true]
     simp only[ne_eq] at this
     omega
  by_cases hmem:(n:Int)∈l
  ·rw [if_pos hmem] at hcount
   refine⟨by omega,?_⟩
   constructor
   ·intro h3
    have:=h2.2.1 fun k hk=>List.mem_filter.2 ⟨h3 k (by omega),by simp;omega⟩
    omega
   ·intro h3 k hk
    by_cases hkn:k=n
    ·subst hkn;exact hmem
    ·exact (List.mem_filter.1 (h2.2.2 (by omega) k (by omega))).1
  ·rw [if_neg hmem] at hcount
   refine⟨by omega,?_⟩
   constructor
   ·intro h3;exact absurd (h3 n (by omega)) hmem
   ·intro h3;omega
theorem fput_size(at_:Int)(s:Tm)(hs:s.shape=true)(f:Fm):f.shape=true→∀b,(f.re (fun b t=>t.re (putG (at_+b) s) 0) b).size=f.size+cntF at_ (f.tms b)*(s.size-1):=by
 induction f using Fm.ind with
 |h f ih=>
  intro hf b
  have e3:(f.re (fun b t=>t.re (putG (at_+b) s) 0) b).size=1+((f.terms.map fun t=>t.re (putG (at_+b) s) 0).map Tm.size).sum+((f.args.map (Fm.re (fun b t=>t.re (putG (at_+b) s) 0) (upF f.kind b))).map Fm.size).sum:=by
   rw[Fm.re_eq,Fm.size_eq];rfl
  rw[e3,f.size_eq,Fm.tms_eq,cntF_append,Nat.add_mul,List.map_map,List.map_map]
  have h1:∀l:List Tm,(∀x∈l,x∈f.terms)→(l.map (Tm.size∘fun t=>t.re (putG (at_+b) s) 0)).sum=(l.map Tm.size).sum+cntF at_ (l.map fun t=>(t,b))*(s.size-1):=by
   intro l
   induction l with
   |nil=>intro _;simp[cntF]
   |cons x l ihl=>
    intro hl
    have h2:=put_size (at_+b) s x hs 0 (fshape_terms hf (hl x (by simp)))
    have h3:=ihl fun y hy=>hl y (by simp[hy])
    simp only[List.map_cons,List.sum_cons,Function.comp_apply,cntF,Nat.add_mul]
    omega
  have h2:∀l:List Fm,(∀x∈l,x∈f.args)→(l.map (Fm.size∘Fm.re (fun b t=>t.re (putG (at_+b) s) 0) (upF f.kind b))).sum=(l.map Fm.size).sum+cntF at_ (l.flatMap (Fm.tms (upF f.kind b)))*(s.size-1):=by
   intro l
   induction l with
   |nil=>intro _;simp[cntF]
   |cons x l ihl=>
    intro hl
    have h2:=ih x (hl x (by simp)) (fshape_args hf (hl x (by simp))) (upF f.kind b)
    have h3:=ihl fun y hy=>hl y (by simp[hy])
    simp only[List.map_cons,List.sum_cons,Function.comp_apply,List.flatMap_cons,cntF_append,Nat.add_mul]
    omega
  have h3:=h1 f.terms fun _ h=>h
  have h4:=h2 f.args fun _ h=>h
  omega
theorem putF_err{f:Fm}{at_:Int}{s:Tm}(ha:0≤at_)(h:putFErr f at_ s=0):(f.put at_ s).err=0:=by
 obtain⟨h1,h2,_,_,h5⟩:=putFErr_zero h
 have hf:=(Fm.err_iff f).1 h1
 have hs:=(err_zero h2).1
 refine(Fm.err_iff _).2 ⟨fput_shape ha hs hf.1,?_⟩
 have h6:=fput_size at_ s hs f hf.1 0
 have hsp:=s.size_pos
 show(f.re _ 0).size≤4096
 rw[h6]
 have h7:(((cntF at_ (f.tms 0)*(s.size-1):Nat)):Int)=(cntF at_ (f.tms 0):Int)*(s.size-1):=by
  rw[Int.natCast_mul,Int.natCast_sub hsp];rfl
 omega
def fine(s:Tm):Prop:=s.err=0∧∀q∈s.vars 0,q.1≤1000000
mutual
def Fm.okT(g:List Ty):Fm→Prop
 | .mk k h ts as=>(∀t∈ts,t.inf g=(natT,0))∧Fm.okTs (if quantK k=true then g++[h] else g) as
def Fm.okTs(g:List Ty):List Fm→Prop
 |[]=>True
 |f::l=>f.okT g∧Fm.okTs g l
end
def ctxF(g:List Ty)(f:Fm):List Ty:=if quantK f.kind=true then g++[f.ty] else g
theorem Fm.okTs_iff(g:List Ty):∀l:List Fm,Fm.okTs g l↔∀x∈l,x.okT g
 |[]=>by simp[Fm.okTs]
 |f::l=>by simp only[Fm.okTs,Fm.okTs_iff g l,List.mem_cons,forall_eq_or_imp]
theorem Fm.okT_iff(g:List Ty)(f:Fm):f.okT g↔(∀t∈f.terms,t.inf g=(natT,0))∧∀x∈f.args,x.okT (ctxF g f):=by
 cases f;simp only[Fm.okT,Fm.okTs_iff,ctxF];rfl
theorem ctxF_q{g:List Ty}{f:Fm}(h:quantK f.kind=true):ctxF g f=g++[f.ty]:=if_pos h
theorem ctxF_n{g:List Ty}{f:Fm}(h:¬quantK f.kind=true):ctxF g f=g:=if_neg h
theorem quantK_iff{k:Int}:quantK k=true↔4≤k∧k≤7:=by simp[quantK]
theorem fokT_eqf(d:Dk){g:List Ty}(hg:smalls g):(d.eqf g).1.okT g:=by
 have m1:=(Dk.tm_mk 3 d g natT hg small_nat (by omega) (by omega)).inf hg small_nat
 have m2:=(Dk.tm_mk 3 (Dk.tm 3 d g natT).2 g natT hg small_nat (by omega) (by omega)).inf hg small_nat
 rw[Fm.okT_iff]
 refine⟨fun t ht=> ?_,fun x hx=>by cases hx⟩
 simp only[Dk.eqf,eqF,Fm.terms_mk,List.mem_cons,List.not_mem_nil,or_false] at ht
 rcases ht with rfl|rfl
 ·exact m1
 ·exact m2
theorem fokT_two{k:Int}{a b:Fm}{g:List Ty}(hk:k=2∨k=3)(ha:a.okT g)(hb:b.okT g):(twoF k a b).okT g:=by
 rw[Fm.okT_iff]
 have e:ctxF g (twoF k a b)=g:=ctxF_n (by show ¬quantK k=true;rw[quantK_iff];omega)
 rw[e]
 refine And.intro (fun t ht=>by cases ht) (fun x hx=> ?_)
 simp only[twoF,Fm.args_mk,List.mem_cons,List.not_mem_nil,or_false] at hx
 rcases hx with rfl|rfl
 ·exact ha
 ·exact hb
theorem fokT_qu{k:Int}{s:Ty}{a:Fm}{g:List Ty}(hk:4≤k∧k≤7)(ha:a.okT (g++[s])):(quF k s a).okT g:=by
 rw[Fm.okT_iff]
 have e:ctxF g (quF k s a)=g++[s]:=ctxF_q (quantK_iff.2 hk)
 rw[e]
 refine And.intro (fun t ht=>by cases ht) (fun x hx=> ?_)
 simp only[quF,Fm.args_mk,List.mem_cons,List.not_mem_nil,or_false] at hx
 subst hx;exact ha
theorem Dk.fm_okT:∀(n:Nat) (d:Dk) (g:List Ty),smalls g→(Dk.fm n d g).1.okT g:=by
 intro n
 induction n with
 |zero=>exact fun d g hg=>fokT_eqf d hg
 |succ n ih=>
  intro d g hg
  have h2:=Dk.next_bd (((d.next 9).2.type 0).2) 2 (by omega)
  have s1:=Dk.type1 (d.next 9).2
  have s0:=Dk.type0 (d.next 9).2
  have s0':=small_one s0.1 s0.2
  simp only[Dk.fm]
  repeat' split
  ·exact fokT_two (.inl rfl) (ih _ _ hg) (ih _ _ hg)
  ·exact fokT_two (.inr rfl) (ih _ _ hg) (ih _ _ hg)
  ·exact fokT_qu ⟨by omega,by omega⟩ (ih _ _ (smalls_app hg (smalls_cons s1 smalls_nil)))
  ·exact fokT_qu ⟨by omega,by omega⟩ (ih _ _ (smalls_app hg (smalls_cons s1 smalls_nil)))
  ·exact fokT_qu ⟨by omega,by omega⟩ (ih _ _ (smalls_app hg (smalls_cons s0' smalls_nil)))
  ·exact fokT_eqf _ hg
theorem fokT_put(at_:Int)(s:Tm)(g:List Ty)(σ:Ty)(hs:s.shape=true)(hσ:s.inf g=(σ,0))(f:Fm):∀(h:List Ty) (b:Int),(h.length:Int)=at_+b→f.shape=true→f.okT (g++[σ]++h)→
 (f.re (fun b t=>t.re (putG (at_+b) s) 0) b).okT (g++h):=by
 induction f using Fm.ind with
 |h f ih=>
  intro h b hb hf hok
  rw[Fm.okT_iff] at hok
  rw[Fm.re_eq,Fm.okT_iff]
  simp only[Fm.terms_mk,Fm.args_mk]
  refine⟨fun y hy=> ?_,fun y hy=> ?_⟩
  ·obtain ⟨x,hx,rfl⟩:=List.mem_map.1 hy
   rw[put_inf x s g h σ (at_+b) 0 (fshape_terms hf hx) hs (by omega) hσ]
   exact hok.1 x hx
  ·obtain ⟨x,hx,rfl⟩:=List.mem_map.1 hy
   have h1:=hok.2 x hx
   by_cases hq:quantK f.kind=true
   ·rw [ctxF_q hq] at h1
    rw[show ∀ts as,ctxF (g++h) (Fm.mk f.kind f.ty ts as)=g++h++[f.ty] from fun ts as=>ctxF_q (f:=Fm.mk f.kind f.ty ts as) hq]
    have e:upF f.kind b=b+1:=if_pos hq
    rw[e,List.append_assoc]
    rw[List.append_assoc] at h1
    exact ih x hx (h++[f.ty]) (b+1) (by simp;omega) (fshape_args hf hx) h1
   ·rw [ctxF_n hq] at h1
    rw[show ∀ts as,ctxF (g++h) (Fm.mk f.kind f.ty ts as)=g++h from fun ts as=>ctxF_n (f:=Fm.mk f.kind f.ty ts as) hq]
    have e:upF f.kind b=b:=if_neg hq
    rw[e]
    exact ih x hx h b hb (fshape_args hf hx) h1
theorem fokT_vars{f:Fm}:∀{g:List Ty} {b:Int},f.okT g→f.shape=true→∀q∈f.tms b,∀v∈q.1.vars 0,v.1<g.length+f.size:=by
 induction f using Fm.ind with
 |h f ih=>
  intro g b hok hf q hq v hv
  have e:=f.size_eq
  rw[Fm.okT_iff] at hok
  rw[Fm.tms_eq,List.mem_append] at hq
  rcases hq with hq|hq
  ·obtain ⟨t,ht,rfl⟩:=List.mem_map.1 hq
   have h1:=lsum_mem Tm.size ht
   have h2:=hok.1 t ht
   exact vars_bound t g 0 _ (by rw[h2]) (fshape_terms hf ht) (by omega) v hv
  ·obtain ⟨x,hx,hq⟩:=List.mem_flatMap.1 hq
   have h1:=lsum_mem Fm.size hx
   have h2:=ih x hx (hok.2 x hx) (fshape_args hf hx) q hq v hv
   have h3:(ctxF g f).length≤g.length+1:=by simp only[ctxF];split<;>simp
   omega
theorem fokT_near{f:Fm}{g:List Ty}(h:f.okT g)(he:f.err=0)(hg:g.length≤1000):f.near=true∧f.nearE=true:=by
 have h1:=(Fm.err_iff f).1 he
 refine⟨List.all_eq_true.2 fun q hq=>List.all_eq_true.2 fun v hv=> ?_,List.all_eq_true.2 fun q hq=>List.all_eq_true.2 fun v hv=> ?_⟩
 ·have:=fokT_vars h h1.1 q hq v hv;simp;omega
 ·have:=fokT_vars h h1.1 q hq v hv;simp;omega
def Dk.pat(g:List Ty)(d:Dk):Nat→List Ty×List Tm×Dk
 |0=>(g,[],d)
 |n+1=>((Dk.pat g d n).1++[((Dk.pat g d n).2.2.type 0).1],(Dk.tm 4 ((Dk.pat g d n).2.2.type 0).2 g ((Dk.pat g d n).2.2.type 0).1).1::(Dk.pat g d n).2.1,(Dk.tm 4 ((Dk.pat g d n).2.2.type 0).2 g ((Dk.pat g d n).2.2.type 0).1).2)
def leastT(most:Int)(t:Tm):Bool:=(t.vars 0).all fun p=>decide (p.1≤most)
theorem all_shift(most b:Int)(t:Tm):(t.vars b).all (fun p=>decide (p.1≤most))=leastT most t:=by
 have h:=vars_shift t 0 b
 rw[Int.zero_add] at h
 rw[h,List.all_map];rfl
theorem all_flat{α β:Type}(f:α→List β)(p:β→Bool)(l:List α):(l.flatMap f).all p=l.all fun x=>(f x).all p:=by
 induction l with
 |nil=>rfl
 |cons x l ih=>rw[List.flatMap_cons,List.all_append,ih,List.all_cons]
theorem leastT_eq{most:Int}(h0:0≤most){t:Tm}(hs:t.shape=true):leastT most t=(decide (t.index≤most)&&t.args.all (leastT most)):=by
 simp only[leastT]
 by_cases h1:t.kind=1
 ·rw [vars_var hs h1,var_args hs h1];simp
 ·rw [vars_node h1,all_flat,(shape_index hs).2 h1,decide_eq_true h0,Bool.true_and]
  congr 1
  funext x
  exact all_shift most _ x
theorem near_least(t:Tm):t.near=leastT 536870912 t:=rfl
def leastF(most:Int)(f:Fm):Bool:=(f.tms 0).all fun p=>leastT most p.1
theorem lift_up(k fr by_:Int)(x:Tm):x.re (liftG (up k fr) by_) 0=x.re (liftG fr by_) (up k 0):=by
 rw[re_shift0 (liftG fr by_) (up k 0) x]
 refine re_congr x 0 fun p _=> ?_
 simp only[liftG_eq]
 congr 1
 have:up k fr=fr+up k 0:=by have:=up_add k 0 fr;rw[Int.zero_add,Int.add_comm] at this;exact this
 rw[this]
 by_cases h:p.1-p.2≥fr+up k 0
 ·rw [if_pos h,if_pos (by omega)]
 ·rw [if_neg h,if_neg (by omega)]
theorem lift_node{fr by_:Int}{t:Tm}(h:t.kind≠1):t.re (liftG fr by_) 0= .mk t.kind t.index t.ty (t.args.map fun x=>x.re (liftG (up t.kind fr) by_) 0):=by
 rw[re_node h]
 congr 1
 exact List.map_congr_left fun x _=>(lift_up _ _ _ x).symm
def timesF(at_:Int)(f:Fm):Nat:=cntF at_ (f.tms 0)
def firstI{α:Type}(f:α→Int):List α→Int
 |[]=>0
 |x::l=>if f x≠0 then f x else firstI f l
theorem firstI_at{α:Type}{f:α→Int}:∀{l:List α} {m:Nat} (hm:m<l.length),(∀j (hj:j<l.length),j<m→f l[j]=0)→f l[m]≠0→firstI f l=f l[m]
 |[],m,hm,_,_=>by simp at hm
 |x::l,0,hm,_,h=>by simp only[firstI,List.getElem_cons_zero] at h ⊢;rw[if_pos h]
 |x::l,m+1,hm,h0,h=>by
  have h1:=h0 0 (by simp) (by omega)
  simp only[List.getElem_cons_zero] at h1
  simp only[firstI,List.getElem_cons_succ] at h ⊢
  rw[if_neg (by simp[h1])]
  exact firstI_at (by simpa using hm) (fun j hj hjm=>by have:=h0 (j+1) (by simpa using hj) (by omega);simpa using this) h
theorem firstI_none{α:Type}{f:α→Int}:∀{l:List α},(∀j (hj:j<l.length),j<l.length→f l[j]=0)→firstI f l=0
 |[],_=>rfl
 |x::l,h0=>by
  have h1:=h0 0 (by simp) (by simp)
  simp only[List.getElem_cons_zero] at h1
  simp only[firstI]
  rw[if_neg (by simp[h1])]
  exact firstI_none fun j hj hjm=>by have:=h0 (j+1) (by simpa using hj) (by simpa using hj);simpa using this
theorem firstI_all{α:Type}{f:α→Int}{l:List α}(h:∀x∈l,f x=0):firstI f l=0:=firstI_none fun j hj _=>h _ (List.getElem_mem hj)
def tE(g:List Ty)(t:Tm):Int:=if(typed g t).2≠0 then(typed g t).2 else if(typed g t).1.kind≠1 then 7 else 0
mutual
def Fm.tyE(g:List Ty):Fm→Int
 | .mk k h ts as=>if firstI (tE g) ts≠0 then firstI (tE g) ts else Fm.tyEs (if quantK k=true then g++[h] else g) as
def Fm.tyEs(g:List Ty):List Fm→Int
 |[]=>0
 |f::l=>if f.tyE g≠0 then f.tyE g else Fm.tyEs g l
end
theorem Fm.tyEs_eq(g:List Ty):∀l:List Fm,Fm.tyEs g l=firstI (Fm.tyE g) l
 |[]=>rfl
 |f::l=>by rw[Fm.tyEs,Fm.tyEs_eq g l];rfl
theorem Fm.tyE_eq(g:List Ty)(f:Fm):f.tyE g=if firstI (tE g) f.terms≠0 then firstI (tE g) f.terms else firstI (Fm.tyE (ctxF g f)) f.args:=by
 cases f;simp only[Fm.tyE,Fm.tyEs_eq,ctxF];rfl
def typedF(g:List Ty)(f:Fm):Int:=if f.err≠0 then f.err else f.tyE g
def typedFC(g:List Ty)(f:Fm):Int:=if ctxErr g≠0 then ctxErr g else typedF g f
theorem okT_tyE(f:Fm):∀g:List Ty,f.okT g→f.shape=true→f.size≤4096→f.tyE g=0:=by
 induction f using Fm.ind with
 |h f ih=>
  intro g hok hs hz
  have e:=f.size_eq
  rw[Fm.okT_iff] at hok
  rw[Fm.tyE_eq]
  have h1:firstI (tE g) f.terms=0:=firstI_all fun t ht=>by
   have h2:=lsum_mem Tm.size ht
   have h3:t.err=0:=(Tm.err_iff t).2 ⟨fshape_terms hs ht,by omega⟩
   have h4:typed g t=(natT,0):=by simp only[typed];rw[if_neg (by simp[h3]),hok.1 t ht]
   simp only[tE,h4];rfl
  rw[if_neg (by simp[h1])]
  exact firstI_all fun x hx=>ih x hx _ (hok.2 x hx) (fshape_args hs hx) (by have:=lsum_mem Fm.size hx;omega)
theorem okT_typedFC{f:Fm}{g:List Ty}(h:f.okT g)(he:f.err=0)(hg:ctxErr g=0):typedFC g f=0:=by
 have h1:=(Fm.err_iff f).1 he
 simp only[typedFC,typedF]
 rw[if_neg (by simp[hg]),if_neg (by simp[he])]
 exact okT_tyE f g h h1.1 h1.2
abbrev MSt:=FMap×Bool
def rH(k b:Int)(t:Tm)(s:MSt):MSt:=
 if k∈s.1.map (·.1) then s else if ∀j:Nat,j<b.toNat→cnt j (t.vars 0)=0 then(s.1++[(k,t.re (liftG b (-b)) 0)],s.2) else(s.1,true)
mutual
def rT(h b:Int):Tm→Tm→MSt→MSt
 | .mk k i ty as,t,s=>
   if s.2=true then s
   else if k=1∧b≤i∧i<b+h then rH (i-b) b t s
   else if k=t.kind∧(if k=1∧b+h≤i then i-h else i)=t.index∧ty=t.ty∧as.length=t.args.length then rTs h (up k b) as t.args s
   else(s.1,true)
def rTs(h b:Int):List Tm→List Tm→MSt→MSt
 |[],_,s=>s
 |_::_,[],s=>s
 |p::ps,t::ts,s=>rTs h b ps ts (rT h b p t s)
end
mutual
def rF(h b:Int):Fm→Fm→MSt→MSt
 | .mk k ty ts as,f,s=>
   if s.2=true∨k≠f.kind∨ty≠f.ty then(s.1,true) else rFs h (upF k b) as f.args (rTs h b ts f.terms s)
def rFs(h b:Int):List Fm→List Fm→MSt→MSt
 |[],_,s=>s
 |_::_,[],s=>s
 |p::ps,t::ts,s=>rFs h b ps ts (rF h b p t s)
end
def Both(r:Bool×FMap)(s:MSt):Prop:=(r.1=true∧s=(r.2,false))∨(r.1=false∧s.2=true)
def OnceM(h:Int)(m:FMap):Prop:=(m.map (·.1)).Nodup∧∀k∈m.map (·.1),0≤k∧k<h
def unitM:Tm:= .mk 13 0 (.mk 0 []) []
def outsR(m:FMap)(n:Nat):List Tm:=(List.range n).map fun k:Nat=>(lookT m (k:Int)).getD unitM
def openR(m:FMap)(n:Nat):Bool:=(List.range n).any fun k:Nat=>(lookT m (k:Int)).isNone
def matchR(p:Fm)(h:Int)(f:Fm):List Tm×Int:=
 if p.err≠0 then([],p.err) else if f.err≠0 then([],f.err) else if ¬(0≤h∧h≤16)∨p.nearE=false∨f.nearE=false then([],1)
 else if(rF h 0 p f ([],false)).2=true then([],11)
 else if(fill p (outsR (rF h 0 p f ([],false)).1 h.toNat)).2≠0∨(fill p (outsR (rF h 0 p f ([],false)).1 h.toNat)).1≠f then([],11)
 else if openR (rF h 0 p f ([],false)).1 h.toNat=true then([],13) else(outsR (rF h 0 p f ([],false)).1 h.toNat,0)
mutual
def Ty.cn(most:Int):Ty→Int
 | .mk _ as=>Ty.cns most 1 as
def Ty.cns(most n:Int):List Ty→Int
 |[]=>n
 |x::l=>if n≤most then Ty.cns most (n+x.cn (most-n)) l else n
end
mutual
def Tm.cn(most:Int):Tm→Int
 | .mk _ _ h as=>Tm.cns most (1+h.cn (most-1)) as
def Tm.cns(most n:Int):List Tm→Int
 |[]=>n
 |x::l=>if n≤most then Tm.cns most (n+x.cn (most-n)) l else n
end
mutual
def Fm.cn(most:Int):Fm→Int
 | .mk _ h ts as=>Fm.cns most (Tm.cns most (1+h.cn (most-1)) ts) as
def Fm.cns(most n:Int):List Fm→Int
 |[]=>n
 |x::l=>if n≤most then Fm.cns most (n+x.cn (most-n)) l else n
end
end Go.Ab
namespace Go.Ab
open Go
set_option linter.all false
def wsum(l:List Tm):Int:=l.foldl (fun n x=>IntKind.i64.wrap (n+x.cn 20000)) 0
end Go.Ab
namespace Go.Ab
set_option linter.all false
def rootT(t:Tm):Bool:=
 if t.kind=3 then(t.arg 0).kind==2
 else if t.kind=6 then(t.arg 2).kind==4||(t.arg 2).kind==5
 else if t.kind=9 then(t.arg 2).kind==7||(t.arg 2).kind==8
 else if t.kind=11∨t.kind=12 then(t.arg 0).kind==10 else false
def redT(t:Tm):Tm:=
 if t.kind=3 then((t.arg 0).arg 0).re (putG 0 (t.arg 1)) 0
 else if t.kind=6 then
  if(t.arg 2).kind=4 then t.arg 0 else apT (apT (t.arg 1) ((t.arg 2).arg 0)) (.mk 6 0 t.ty [t.arg 0,t.arg 1,(t.arg 2).arg 0])
 else if t.kind=9 then
  if(t.arg 2).kind=7 then t.arg 0 else apT (apT (apT (t.arg 1) ((t.arg 2).arg 0)) ((t.arg 2).arg 1)) (.mk 9 0 t.ty [t.arg 0,t.arg 1,(t.arg 2).arg 1])
 else if t.kind=11 then(t.arg 0).arg 0 else(t.arg 0).arg 1
def growT(t:Tm):Int:=(redT t).size-t.size
inductive RV:Tm→Tm→Prop
 |beta (i th j s b a):RV (.mk 3 i th [.mk 2 j s [b],a]) (b.re (putG 0 a) 0)
 |rz (i th x f j s):RV (.mk 6 i th [x,f,.mk 4 j s []]) x
 |rs (i th x f j s n):RV (.mk 6 i th [x,f,.mk 5 j s [n]]) (apT (apT f n) (.mk 6 0 th [x,f,n]))
 |fz (i th x f j s):RV (.mk 9 i th [x,f,.mk 7 j s []]) x
 |fs (i th x f j s h l):RV (.mk 9 i th [x,f,.mk 8 j s [h,l]]) (apT (apT (apT f h) l) (.mk 9 0 th [x,f,l]))
 |p1 (i th j s x y):RV (.mk 11 i th [.mk 10 j s [x,y]]) x
 |p2 (i th j s x y):RV (.mk 12 i th [.mk 10 j s [x,y]]) y
theorem mkArgs0{t:Tm}(hs:t.shape=true){k:Int}(hk:t.kind=k)(ha:arK k=some 0):∃i th,t= .mk k i th []:=by
 obtain⟨k',i,th,xs⟩:=t
 rw[Tm.shape_eq,Bool.and_eq_true] at hs
 have h:=hs.1
 simp only[Tm.head,Bool.and_eq_true,Tm.kind_mk,Tm.args_mk] at h hk
 subst hk
 rw[ha] at h
 have e:xs=[]:=List.eq_nil_of_length_eq_zero (by simpa using h.1.1.1)
 exact⟨i,th,by rw[e]⟩
theorem root_rv{t:Tm}(hs:t.shape=true)(h:rootT t=true):RV t (redT t):=by
 unfold rootT at h
 by_cases h3:t.kind=3
 ·rw [if_pos h3] at h
  obtain⟨i,th,f,a,rfl,hf,ha⟩:=mkArgs2 hs h3 rfl
  simp only[Tm.arg,Tm.args_mk,List.getD_cons_zero,beq_iff_eq] at h
  obtain⟨j,s,b,rfl,hb⟩:=mkArgs1 hf h rfl
  exact .beta i th j s b a
 rw[if_neg h3] at h
 by_cases h6:t.kind=6
 ·rw [if_pos h6] at h
  obtain⟨i,th,x,f,z,rfl,hx,hf,hz⟩:=mkArgs3 hs h6 rfl
  simp only[Tm.arg,Tm.args_mk,List.getD_cons_zero,List.getD_cons_succ,Bool.or_eq_true,beq_iff_eq] at h
  rcases h with h|h
  ·obtain ⟨j,s,rfl⟩:=mkArgs0 hz h rfl
   exact .rz i th x f j s
  ·obtain ⟨j,s,n,rfl,hn⟩:=mkArgs1 hz h rfl
   exact .rs i th x f j s n
 rw[if_neg h6] at h
 by_cases h9:t.kind=9
 ·rw [if_pos h9] at h
  obtain⟨i,th,x,f,z,rfl,hx,hf,hz⟩:=mkArgs3 hs h9 rfl
  simp only[Tm.arg,Tm.args_mk,List.getD_cons_zero,List.getD_cons_succ,Bool.or_eq_true,beq_iff_eq] at h
  rcases h with h|h
  ·obtain ⟨j,s,rfl⟩:=mkArgs0 hz h rfl
   exact .fz i th x f j s
  ·obtain ⟨j,s,n,l,rfl,hn,hl⟩:=mkArgs2 hz h rfl
   exact .fs i th x f j s n l
 rw[if_neg h9] at h
 by_cases h11:t.kind=11
 ·rw [if_pos (.inl h11)] at h
  obtain⟨i,th,p,rfl,hp⟩:=mkArgs1 hs h11 rfl
  simp only[Tm.arg,Tm.args_mk,List.getD_cons_zero,beq_iff_eq] at h
  obtain⟨j,s,x,y,rfl,hx,hy⟩:=mkArgs2 hp h rfl
  exact .p1 i th j s x y
 by_cases h12:t.kind=12
 ·rw [if_pos (.inr h12)] at h
  obtain⟨i,th,p,rfl,hp⟩:=mkArgs1 hs h12 rfl
  simp only[Tm.arg,Tm.args_mk,List.getD_cons_zero,beq_iff_eq] at h
  obtain⟨j,s,x,y,rfl,hx,hy⟩:=mkArgs2 hp h rfl
  exact .p2 i th j s x y
 ·rw [if_neg (by rintro(h|h);exact h11 h;exact h12 h)] at h;cases h
theorem apT_shape{f x:Tm}(hf:f.shape=true)(hx:x.shape=true):(apT f x).shape=true:=by
 simp[apT,Tm.shape,Tm.shapes,Tm.head,arK,typedK,Ty.isNo,hf,hx]
theorem red_shape{t:Tm}(hs:t.shape=true)(h:rootT t=true):(redT t).shape=true:=by
 have hv:=root_rv hs h
 have hargs:=shape_args hs
 generalize redT t=u at hv
 cases hv with
 |beta i th j s b a=>
  have h1:=shape_args (hargs (.mk 2 j s [b]) (by simp)) b (by simp)
  exact put_shape 0 (hargs a (by simp)) h1 (Int.le_refl _) (Int.le_refl _) fun p hp=>vars_snd b 0 p hp
 |rz=>exact hargs _ (by simp)
 |fz=>exact hargs _ (by simp)
 |rs i th x f j s n=>
  have h1:=shape_args (hargs (.mk 5 j s [n]) (by simp)) n (by simp)
  have hx:=hargs x (by simp)
  have hf:=hargs f (by simp)
  have hh:th.ok=true:=by rw[Tm.shape_eq,Bool.and_eq_true] at hs;have:=hs.1;simp[Tm.head,typedK] at this;exact this.2
  refine apT_shape (apT_shape hf h1) ?_
  simp[Tm.shape,Tm.shapes,Tm.head,arK,typedK,hf,hx,h1,hh]
 |fs i th x f j s n l=>
  have h1:=shape_args (hargs (.mk 8 j s [n,l]) (by simp)) n (by simp)
  have h2:=shape_args (hargs (.mk 8 j s [n,l]) (by simp)) l (by simp)
  have hx:=hargs x (by simp)
  have hf:=hargs f (by simp)
  have hh:th.ok=true:=by rw[Tm.shape_eq,Bool.and_eq_true] at hs;have:=hs.1;simp[Tm.head,typedK] at this;exact this.2
  refine apT_shape (apT_shape (apT_shape hf h1) h2) ?_
  simp[Tm.shape,Tm.shapes,Tm.head,arK,typedK,hf,hx,h1,h2,hh]
 |p1 i th j s _ y=>exact shape_args (hargs (.mk 10 j s [u,y]) (by simp)) u (by simp)
 |p2 i th j s x _=>exact shape_args (hargs (.mk 10 j s [x,u]) (by simp)) u (by simp)
theorem red_free{C:Int}(hC:0≤C){t u:Tm}(hs:t.shape=true)(h:RV t u)(hf:∀p∈t.vars 0,p.1-p.2≤C):∀p∈u.vars 0,p.1-p.2≤C:=by
 have hargs:=shape_args hs
 cases h with
 |beta i th j s b a=>
  have hb:=shape_args (hargs (.mk 2 j s [b]) (by simp)) b (by simp)
  have ha:=hargs a (by simp)
  intro p hp
  rw[vars_re _ _ _ hb,List.mem_flatMap] at hp
  obtain⟨q,hq,hp⟩:=hp
  have hq2:=vars_snd b 0 q hq
  have hfb:q.1-(q.2+1)≤C:=by
   refine hf (q.1,q.2+1) ?_
   have e:b.vars 1=(b.vars 0).map fun p=>(p.1,p.2+1):=by have:=vars_shift b 0 1;simpa using this
   have hm:(q.1,q.2+1)∈b.vars 1:=by rw[e];exact List.mem_map.2 ⟨q,hq,rfl⟩
   simp[Tm.vars,Tm.varss,up]
   exact .inl hm
  rw[putG_eq] at hp
  by_cases h0:q.1-q.2=0
  ·rw [if_pos h0] at hp
   have e:(a.re (liftG 0 (0+q.2)) 0).vars q.2=((a.re (liftG 0 q.2) 0).vars 0).map fun p=>(p.1,p.2+q.2):=by have:=vars_shift (a.re (liftG 0 (0+q.2)) 0) 0 q.2;simpa using this
   rw[e,lift_vars _ _ _ _ ha,List.map_map,List.mem_map] at hp
   obtain⟨r,hr,rfl⟩:=hp
   have hfa:=hf r (by
    simp only[Tm.vars,Tm.varss,up,List.mem_append]
    simp[hr])
   simp only[Function.comp_apply]
   split<;>omega
  ·rw [if_neg h0,vars_vT] at hp
   simp only[List.mem_singleton] at hp
   subst hp
   simp only
   split<;>omega
 |rz i th x f j s=>intro p hp;refine hf p ?_;simp[Tm.vars,Tm.varss,up,hp]
 |fz i th x f j s=>intro p hp;refine hf p ?_;simp[Tm.vars,Tm.varss,up,hp]
 |rs i th x f j s n=>
  intro p hp
  refine hf p ?_
  simp[apT,Tm.vars,Tm.varss,up] at hp ⊢
  rcases hp with h|h|h|h|h<;>simp[h]
 |fs i th x f j s n l=>
  intro p hp
  refine hf p ?_
  simp[apT,Tm.vars,Tm.varss,up] at hp ⊢
  rcases hp with h|h|h|h|h|h<;>simp[h]
 |p1 i th j s x y=>intro p hp;refine hf p ?_;simp[Tm.vars,Tm.varss,up,hp]
 |p2 i th j s x y=>intro p hp;refine hf p ?_;simp[Tm.vars,Tm.varss,up,hp]
mutual
def nxR(room:Int):Tm→Option (Tm×Bool)
 | .mk k i h xs=>if rootT (.mk k i h xs)=true then some (if growT (.mk k i h xs)>room then(noTm,false) else(redT (.mk k i h xs),true)) else(nxRs room xs).map fun p=>(.mk k i h p.1,p.2)
def nxRs(room:Int):List Tm→Option (List Tm×Bool)
 |[]=>none
 |x::l=>match nxR room x with
  |some p=>some (p.1::l,p.2)
  |none=>(nxRs room l).map fun q=>(x::q.1,q.2)
end
theorem nxR_eq(room:Int)(t:Tm):nxR room t=if rootT t=true then some (if growT t>room then(noTm,false) else(redT t,true)) else(nxRs room t.args).map fun p=>(.mk t.kind t.index t.ty p.1,p.2):=by
 cases t;simp only[nxR];rfl
theorem nxRs_at(room:Int):∀(xs:List Tm) (i:Nat) (hi:i<xs.length) (u:Tm×Bool),nxR room xs[i]=some u→(∀(j:Nat) (hj:j<xs.length),j<i→nxR room xs[j]=none)→nxRs room xs=some (xs.set i u.1,u.2)
 |[],i,hi,u,h,hn=>by simp at hi
 |x::l,0,hi,u,h,hn=>by
  simp only[List.getElem_cons_zero] at h
  simp only[nxRs,h];rfl
 |x::l,i+1,hi,u,h,hn=>by
  have h0:=hn 0 (by simp) (by omega)
  simp only[List.getElem_cons_zero] at h0
  have:=nxRs_at room l i (by simpa using hi) u (by simpa using h) fun j hj hji=>by have:=hn (j+1) (by simpa using hj) (by omega);simpa using this
  simp only[nxRs,h0,this,Option.map_some];rfl
theorem nxRs_none(room:Int):∀(xs:List Tm),(∀(j:Nat) (hj:j<xs.length),j<xs.length→nxR room xs[j]=none)→nxRs room xs=none
 |[],_=>rfl
 |x::l,h=>by
  have h0:=h 0 (by simp) (by simp)
  simp only[List.getElem_cons_zero] at h0
  have:=nxRs_none room l fun j hj _=>by have:=h (j+1) (by simpa using hj) (by simpa using hj);simpa using this
  simp only[nxRs,h0,this];rfl
theorem nxRs_some(room:Int):∀(xs:List Tm) (q:List Tm×Bool),nxRs room xs=some q→∃(i:Nat) (hi:i<xs.length) (u:Tm),nxR room xs[i]=some (u,q.2)∧q.1=xs.set i u
 |[],q,h=>by simp[nxRs] at h
 |x::l,q,h=>by
  simp only[nxRs] at h
  cases hx:nxR room x with
  |some u=>rw[hx] at h;cases h;exact⟨0,by simp,u.1,by simpa using hx,rfl⟩
  |none=>
   rw[hx] at h
   simp only[Option.map_eq_some_iff] at h
   obtain⟨r,h1,rfl⟩:=h
   obtain⟨i,hi,u,h2,h3⟩:=nxRs_some room l r h1
   exact⟨i+1,by simpa using hi,u,by simpa using h2,by simp[h3]⟩
theorem nx_facts(room:Int)(t:Tm):∀u,t.shape=true→nxR room t=some (u,true)→u.shape=true∧(u.size:Int)≤t.size+room∧∀C:Int,0≤C→∀b:Int,0≤b→(∀p∈t.vars b,p.1-p.2≤C)→∀p∈u.vars b,p.1-p.2≤C:=by
 induction t using Tm.ind with
 |h t ih=>
  intro u hs h
  rw[nxR_eq] at h
  by_cases hr:rootT t=true
  ·rw [if_pos hr] at h
   by_cases hg:growT t>room
   ·rw [if_pos hg] at h;simp at h
   ·rw [if_neg hg] at h
    simp at h
    subst h
    refine⟨red_shape hs hr,by simp only[growT] at hg;omega,fun C hC b hb hf=> ?_⟩
    have e:∀x:Tm,x.vars b=(x.vars 0).map fun p=>(p.1,p.2+b):=fun x=>by have:=vars_shift x 0 b;simpa using this
    rw[e] at hf ⊢
    have:=red_free (C:=C+b) (by omega) hs (root_rv hs hr) fun p hp=>by have:=hf _ (List.mem_map.2 ⟨p,hp,rfl⟩);simp only at this;omega
    intro p hp
    obtain⟨q,hq,rfl⟩:=List.mem_map.1 hp
    have:=this q hq
    simp only;omega
  ·rw [if_neg hr] at h
   simp only[Option.map_eq_some_iff] at h
   obtain⟨q,h1,h2⟩:=h
   obtain⟨i,hi,v,h3,h4⟩:=nxRs_some room _ _ h1
   have h5:q.2=true:=by simpa using (congrArg Prod.snd h2)
   have h6:u= .mk t.kind t.index t.ty (t.args.set i v):=by rw[←h4];exact(congrArg Prod.fst h2).symm
   subst h6
   rw[h5] at h3
   have hm:=List.getElem_mem hi
   obtain⟨i1,i2,i3⟩:=ih _ hm v (shape_args hs _ hm) h3
   refine⟨?_,?_,?_⟩
   ·have:(Tm.mk t.kind t.index t.ty t.args).shape=true:=by cases t;exact hs
    exact set_shape this i1
   ·have:=sum_set Tm.size v t.args i hi
    rw[Tm.size_eq,Tm.size_eq t]
    simp only[Tm.args_mk]
    omega
   ·intro C hC b hb hf p hp
    rw[Tm.vars_eq] at hp hf
    simp only[Tm.kind_mk,Tm.index_mk,Tm.args_mk,List.mem_append] at hp hf
    rcases hp with hp|hp
    ·exact hf p (.inl hp)
    ·obtain ⟨y,hy,hp⟩:=List.mem_flatMap.1 hp
     have hup:0≤up t.kind b:=by simp only[up];split<;>omega
     rcases List.mem_or_eq_of_mem_set hy with hy|hyv
     ·exact hf p (.inr (List.mem_flatMap.2 ⟨y,hy,hp⟩))
     ·rw [hyv] at hp
      exact i3 C hC _ hup (fun p hp=>hf p (.inr (List.mem_flatMap.2 ⟨_,hm,hp⟩))) p hp
def subG(σ:Int→Tm)(i c:Int):Tm:=if i<c then vT i else(σ (i-c)).re (liftG 0 c) 0
theorem lift_in(s:Tm)(m n c:Int)(hm:0≤m)(hn:m≤n):(s.re (liftG 0 n) 0).re (liftG m c) 0=s.re (liftG 0 (n+c)) 0:=by
 rw[re_re]
 refine re_congr s 0 fun p hp=> ?_
 simp only[liftG_eq,re_vT]
 congr 1
 by_cases h:p.1-p.2≥0
 ·rw [if_pos h,if_pos (by omega),if_pos h];omega
 ·rw [if_neg h,if_neg (by omega),if_neg h]
theorem put_in(s a:Tm)(c n:Int)(hc:0≤c)(hn:c≤n):(s.re (liftG 0 (n+1)) 0).re (putG 0 a) c=s.re (liftG 0 n) 0:=by
 rw[re_shift0 _ c,re_re]
 refine re_congr s 0 fun p hp=> ?_
 simp only[liftG_eq,re_vT,putG_eq]
 by_cases h:p.1-p.2≥0
 ·rw [if_pos h,if_neg (by omega),if_pos (by omega),if_pos h];congr 1;omega
 ·rw [if_neg h,if_neg (by omega),if_neg (by omega),if_neg h]
theorem lift_base(s:Tm)(c d:Int):s.re (liftG 0 c) d=s.re (liftG d c) 0:=by
 rw[re_shift0 _ d]
 refine re_congr s 0 fun p hp=> ?_
 simp only[liftG_eq]
 congr 1
 by_cases h:p.1-p.2≥d
 ·rw [if_pos h,if_pos (by omega)]
 ·rw [if_neg h,if_neg (by omega)]
theorem sub_lift(σ:Int→Tm)(a:Tm)(b c:Int)(hb:0≤b)(hc:0≤c):(a.re (liftG 0 c) 0).re (fun i d=>subG σ i (d+b)) c=(a.re (subG σ) b).re (liftG 0 c) 0:=by
 rw[re_shift0 _ c,re_re,re_shift0 (subG σ) b,re_re]
 refine re_congr a 0 fun p hp=> ?_
 have h2:=vars_snd a 0 p hp
 simp only[liftG_eq,re_vT]
 by_cases h:p.1<p.2
 ·rw [if_neg (by omega)]
  simp only[subG]
  rw[if_pos (by omega),if_pos (by omega),re_vT,liftG_eq,if_neg (by omega)]
 ·rw [if_pos (by omega)]
  simp only[subG]
  by_cases h3:p.1<p.2+b
  ·rw [if_pos (by omega),if_pos h3,re_vT,liftG_eq,if_pos (by omega)]
  ·rw [if_neg (by omega),if_neg h3,lift_base _ c,lift_in _ _ _ _ h2 (by omega)]
   rw[show p.1+c-(p.2+c+b)=p.1-(p.2+b) by omega,show p.2+c+b=p.2+b+c by omega]
theorem sub_put(σ:Int→Tm)(t a:Tm)(b:Int)(hb:0≤b):(t.re (putG 0 a) 0).re (subG σ) b=(t.re (subG σ) (b+1)).re (putG 0 (a.re (subG σ) b)) 0:=by
 rw[re_shift0 (subG σ) b,re_re,re_shift0 (subG σ) (b+1),re_re]
 refine re_congr t 0 fun p hp=> ?_
 have h2:=vars_snd t 0 p hp
 by_cases h0:p.1-p.2=0
 ·have e:p.1=p.2:=by omega
  have e1:putG 0 a p.1 p.2=a.re (liftG 0 p.2) 0:=by rw[putG_eq,if_pos h0,Int.zero_add]
  have e2:subG σ p.1 (p.2+(b+1))=vT p.1:=if_pos (by omega)
  rw[e1,e2,re_vT,putG_eq,if_pos h0,Int.zero_add,sub_lift σ a b p.2 hb h2]
 ·have e1:putG 0 a p.1 p.2=vT (if p.1-p.2>0 then p.1-1 else p.1):=by rw[putG_eq,if_neg h0]
  rw[e1,re_vT]
  by_cases h:p.1<p.2
  ·rw [if_neg (by omega)]
   simp only[subG]
   rw[if_pos (by omega),if_pos (by omega),re_vT,putG_eq,if_neg (by omega),if_neg (by omega)]
  ·rw [if_pos (by omega)]
   simp only[subG]
   by_cases h3:p.1<p.2+(b+1)
   ·rw [if_pos (by omega),if_pos h3,re_vT,putG_eq,if_neg h0,if_pos (by omega)]
   ·rw [if_neg (by omega),if_neg h3,show p.2+(b+1)=(p.2+b)+1 by omega,put_in _ _ _ _ h2 (by omega)]
    congr 2;omega
def putS(a:Tm)(j:Int):Tm:=if j=0 then a else vT (j-1)
def lftS(n j:Int):Tm:=vT (j+n)
theorem put_sub(a t:Tm):t.re (putG 0 a) 0=t.re (subG (putS a)) 0:=by
 refine re_congr t 0 fun p hp=> ?_
 rw[putG_eq]
 simp only[subG,putS]
 by_cases h:p.1<p.2
 ·rw [if_neg (by omega),if_neg (by omega),if_pos h]
 ·rw [if_neg h]
  by_cases h0:p.1-p.2=0
  ·rw [if_pos h0,if_pos h0,Int.zero_add]
  ·rw [if_neg h0,if_neg h0,if_pos (by omega),re_vT,liftG_eq,if_pos (by omega)]
   congr 1;omega
theorem lft_sub(n:Int)(hn:0≤n)(t:Tm):t.re (liftG 0 n) 0=t.re (subG (lftS n)) 0:=by
 refine re_congr t 0 fun p hp=> ?_
 rw[liftG_eq]
 simp only[subG,lftS]
 by_cases h:p.1<p.2
 ·rw [if_neg (by omega),if_pos h]
 ·rw [if_neg h,if_pos (by omega),re_vT,liftG_eq,if_pos (by omega)]
  congr 1;omega
mutual
inductive Par:Tm→Tm→Prop
 |node {k i h xs ys} (hp:Pars xs ys):Par (.mk k i h xs) (.mk k i h ys)
 |beta {i th j s b b' a a'} (hb:Par b b') (ha:Par a a'):Par (.mk 3 i th [.mk 2 j s [b],a]) (b'.re (putG 0 a') 0)
 |rz {i th x x' f j s} (hx:Par x x'):Par (.mk 6 i th [x,f,.mk 4 j s []]) x'
 |rs {i th x x' f f' j s n n'} (hx:Par x x') (hf:Par f f') (hn:Par n n'):Par (.mk 6 i th [x,f,.mk 5 j s [n]]) (apT (apT f' n') (.mk 6 0 th [x',f',n']))
 |fz {i th x x' f j s} (hx:Par x x'):Par (.mk 9 i th [x,f,.mk 7 j s []]) x'
 |fs {i th x x' f f' j s n n' l l'} (hx:Par x x') (hf:Par f f') (hn:Par n n') (hl:Par l l'):Par (.mk 9 i th [x,f,.mk 8 j s [n,l]]) (apT (apT (apT f' n') l') (.mk 9 0 th [x',f',l']))
 |p1 {i th j s x x' y} (hx:Par x x'):Par (.mk 11 i th [.mk 10 j s [x,y]]) x'
 |p2 {i th j s x y y'} (hy:Par y y'):Par (.mk 12 i th [.mk 10 j s [x,y]]) y'
inductive Pars:List Tm→List Tm→Prop
 |nil:Pars [] []
 |cons {x y xs ys} (h:Par x y) (hs:Pars xs ys):Pars (x::xs) (y::ys)
end
theorem pars_of:∀(xs:List Tm),(∀x∈xs,Par x x)→Pars xs xs
 |[],_=> .nil
 |x::l,h=> .cons (h x (by simp)) (pars_of l fun y hy=>h y (by simp[hy]))
theorem Par.refl(t:Tm):Par t t:=by
 induction t using Tm.ind with
 |h t ih=>obtain⟨k,i,h,xs⟩:=t;exact .node (pars_of xs ih)
theorem pars_set:∀(xs:List Tm) (i:Nat) (hi:i<xs.length) (u:Tm),Par xs[i] u→Pars xs (xs.set i u)
 |x::l,0,_,u,h=> .cons h (pars_of l fun y _=>Par.refl y)
 |x::l,i+1,hi,u,h=> .cons (Par.refl x) (pars_set l i (by simpa using hi) u (by simpa using h))
theorem rv_par{t u:Tm}(h:RV t u):Par t u:=by
 cases h with
 |beta=>exact .beta (.refl _) (.refl _)
 |rz=>exact .rz (.refl _)
 |rs=>exact .rs (.refl _) (.refl _) (.refl _)
 |fz=>exact .fz (.refl _)
 |fs=>exact .fs (.refl _) (.refl _) (.refl _) (.refl _)
 |p1=>exact .p1 (.refl _)
 |p2=>exact .p2 (.refl _)
theorem nx_par(room:Int)(t:Tm):∀u,t.shape=true→nxR room t=some (u,true)→Par t u:=by
 induction t using Tm.ind with
 |h t ih=>
  intro u hs h
  rw[nxR_eq] at h
  by_cases hr:rootT t=true
  ·rw [if_pos hr] at h
   by_cases hg:growT t>room
   ·rw [if_pos hg] at h;simp at h
   ·rw [if_neg hg] at h
    simp at h
    subst h
    exact rv_par (root_rv hs hr)
  ·rw [if_neg hr] at h
   simp only[Option.map_eq_some_iff] at h
   obtain⟨q,h1,h2⟩:=h
   obtain⟨i,hi,v,h3,h4⟩:=nxRs_some room _ _ h1
   have h5:q.2=true:=by simpa using (congrArg Prod.snd h2)
   have h6:u= .mk t.kind t.index t.ty (t.args.set i v):=by rw[←h4];exact(congrArg Prod.fst h2).symm
   subst h6
   rw[h5] at h3
   have hm:=List.getElem_mem hi
   have:=ih _ hm v (shape_args hs _ hm) h3
   obtain⟨k,j,th,xs⟩:=t
   exact .node (pars_set xs i hi v this)
mutual
theorem par_re{σ σ':Int→Tm}(hσ:∀i c,0≤c→Par (subG σ i c) (subG σ' i c)):∀{t u:Tm},Par t u→∀b:Int,0≤b→Par (t.re (subG σ) b) (u.re (subG σ') b)
 |_,_,.node (k:=k) (i:=i) (h:=h) (xs:=xs) (ys:=ys) hp,b,hb=>by
  by_cases h1:k=1
  ·subst h1
   rw[re_var (t:= .mk 1 i h xs) rfl,re_var (t:= .mk 1 i h ys) rfl]
   exact hσ i b hb
  ·rw [re_node (t:= .mk k i h xs) h1,re_node (t:= .mk k i h ys) h1]
   exact .node (pars_re hσ hp (up k b) (by simp only[up];split<;>omega))
 |_,_,.beta (b':=b') (a':=a') h1 h2,b,hb=>by
  rw[sub_put σ' b' a' b hb]
  simp only[Tm.re,Tm.res,up]
  simp only[show ¬((3:Int)=1) by decide,show ¬((3:Int)=2) by decide,show ¬((2:Int)=1) by decide,if_false,if_true]
  exact .beta (par_re hσ h1 (b+1) (by omega)) (par_re hσ h2 b hb)
 |_,_,.rz h1,b,hb=>by
  simp only[Tm.re,Tm.res,up]
  simp only[show ¬((6:Int)=1) by decide,show ¬((6:Int)=2) by decide,show ¬((4:Int)=1) by decide,if_false]
  exact .rz (par_re hσ h1 b hb)
 |_,_,.rs h1 h2 h3,b,hb=>by
  simp only[apT,Tm.re,Tm.res,up]
  simp only[show ¬((6:Int)=1) by decide,show ¬((6:Int)=2) by decide,show ¬((5:Int)=1) by decide,show ¬((5:Int)=2) by decide,show ¬((3:Int)=1) by decide,show ¬((3:Int)=2) by decide,if_false]
  exact .rs (par_re hσ h1 b hb) (par_re hσ h2 b hb) (par_re hσ h3 b hb)
 |_,_,.fz h1,b,hb=>by
  simp only[Tm.re,Tm.res,up]
  simp only[show ¬((9:Int)=1) by decide,show ¬((9:Int)=2) by decide,show ¬((7:Int)=1) by decide,if_false]
  exact .fz (par_re hσ h1 b hb)
 |_,_,.fs h1 h2 h3 h4,b,hb=>by
  simp only[apT,Tm.re,Tm.res,up]
  simp only[show ¬((9:Int)=1) by decide,show ¬((9:Int)=2) by decide,show ¬((8:Int)=1) by decide,show ¬((8:Int)=2) by decide,show ¬((3:Int)=1) by decide,show ¬((3:Int)=2) by decide,if_false]
  exact .fs (par_re hσ h1 b hb) (par_re hσ h2 b hb) (par_re hσ h3 b hb) (par_re hσ h4 b hb)
 |_,_,.p1 h1,b,hb=>by
  simp only[Tm.re,Tm.res,up]
  simp only[show ¬((11:Int)=1) by decide,show ¬((11:Int)=2) by decide,show ¬((10:Int)=1) by decide,show ¬((10:Int)=2) by decide,if_false]
  exact .p1 (par_re hσ h1 b hb)
 |_,_,.p2 h1,b,hb=>by
  simp only[Tm.re,Tm.res,up]
  simp only[show ¬((12:Int)=1) by decide,show ¬((12:Int)=2) by decide,show ¬((10:Int)=1) by decide,show ¬((10:Int)=2) by decide,if_false]
  exact .p2 (par_re hσ h1 b hb)
theorem pars_re{σ σ':Int→Tm}(hσ:∀i c,0≤c→Par (subG σ i c) (subG σ' i c)):∀{xs ys:List Tm},Pars xs ys→∀b:Int,0≤b→Pars (xs.map (Tm.re (subG σ) b)) (ys.map (Tm.re (subG σ') b))
 |_,_,.nil,_,_=> .nil
 |_,_,.cons h hs,b,hb=> .cons (par_re hσ h b hb) (pars_re hσ hs b hb)
end
theorem par_lift{t u:Tm}(h:Par t u)(n:Int)(hn:0≤n):Par (t.re (liftG 0 n) 0) (u.re (liftG 0 n) 0):=by
 rw[lft_sub n hn,lft_sub n hn]
 refine par_re (fun i c _=> ?_) h 0 (Int.le_refl _)
 exact Par.refl _
theorem par_put{b b' a a':Tm}(hb:Par b b')(ha:Par a a'):Par (b.re (putG 0 a) 0) (b'.re (putG 0 a') 0):=by
 rw[put_sub,put_sub]
 refine par_re (fun i c hc=> ?_) hb 0 (Int.le_refl _)
 simp only[subG,putS]
 by_cases h:i<c
 ·rw [if_pos h,if_pos h];exact Par.refl _
 ·rw [if_neg h,if_neg h]
  by_cases h0:i-c=0
  ·rw [if_pos h0,if_pos h0];exact par_lift ha c hc
  ·rw [if_neg h0,if_neg h0];exact Par.refl _
theorem pars_tri:∀(xs:List Tm),(∀x∈xs,∃w,∀u,Par x u→Par u w)→∃ws,∀ys,Pars xs ys→Pars ys ws
 |[],_=>⟨[],fun ys h=>by cases h;exact .nil⟩
 |x::l,h=>by
  obtain⟨w,hw⟩:=h x (by simp)
  obtain⟨ws,hws⟩:=pars_tri l fun y hy=>h y (by simp[hy])
  exact⟨w::ws,fun ys hy=>by cases hy with|cons h1 h2=>exact .cons (hw _ h1) (hws _ h2)⟩
theorem app_par{f f' x x':Tm}(hf:Par f f')(hx:Par x x'):Par (apT f x) (apT f' x'):= .node (.cons hf (.cons hx .nil))
theorem tri:∀(n:Nat) (t:Tm),t.size≤n→∃w,∀u,Par t u→Par u w:=by
 intro n
 induction n with
 |zero=>intro t h;have:=t.size_pos;omega
 |succ n ih=>
 intro t ht
 by_cases hr:∃u,RV t u
 ·obtain ⟨x0,hr⟩:=hr
  cases hr with
  |beta i th j s b a=>
   simp only[Tm.size,Tm.sizes] at ht
   obtain⟨wb,hb⟩:=ih b (by omega)
   obtain⟨wa,ha⟩:=ih a (by omega)
   refine⟨wb.re (putG 0 wa) 0,fun u hu=> ?_⟩
   cases hu with
   |node hp=>
    cases hp with|cons h1 h2=>cases h2 with|cons h2 h3=>cases h3;cases h1 with|node h4=>cases h4 with|cons h4 h5=>cases h5;exact .beta (hb _ h4) (ha _ h2)
   |beta h1 h2=>exact par_put (hb _ h1) (ha _ h2)
  |rz i th _ f j s=>
   simp only[Tm.size,Tm.sizes] at ht
   obtain⟨wx,hx⟩:=ih x0 (by omega)
   refine⟨wx,fun u hu=> ?_⟩
   cases hu with
   |node hp=>
    cases hp with|cons h1 h2=>cases h2 with|cons h2 h3=>cases h3 with|cons h3 h4=>cases h4;cases h3 with|node h5=>cases h5;exact .rz (hx _ h1)
   |rz h1=>exact hx _ h1
  |rs i th x f j s n=>
   simp only[Tm.size,Tm.sizes] at ht
   obtain⟨wx,hx⟩:=ih x (by omega)
   obtain⟨wf,hf⟩:=ih f (by omega)
   obtain⟨wn,hn⟩:=ih n (by omega)
   refine⟨apT (apT wf wn) (.mk 6 0 th [wx,wf,wn]),fun u hu=> ?_⟩
   cases hu with
   |node hp=>
    cases hp with|cons h1 h2=>cases h2 with|cons h2 h3=>cases h3 with|cons h3 h4=>cases h4;cases h3 with|node h5=>cases h5 with|cons h5 h6=>cases h6;exact .rs (hx _ h1) (hf _ h2) (hn _ h5)
   |rs h1 h2 h3=>exact app_par (app_par (hf _ h2) (hn _ h3)) (.node (.cons (hx _ h1) (.cons (hf _ h2) (.cons (hn _ h3) .nil))))
  |fz i th _ f j s=>
   simp only[Tm.size,Tm.sizes] at ht
   obtain⟨wx,hx⟩:=ih x0 (by omega)
   refine⟨wx,fun u hu=> ?_⟩
   cases hu with
   |node hp=>
    cases hp with|cons h1 h2=>cases h2 with|cons h2 h3=>cases h3 with|cons h3 h4=>cases h4;cases h3 with|node h5=>cases h5;exact .fz (hx _ h1)
   |fz h1=>exact hx _ h1
  |fs i th x f j s n l=>
   simp only[Tm.size,Tm.sizes] at ht
   obtain⟨wx,hx⟩:=ih x (by omega)
   obtain⟨wf,hf⟩:=ih f (by omega)
   obtain⟨wn,hn⟩:=ih n (by omega)
   obtain⟨wl,hl⟩:=ih l (by omega)
   refine⟨apT (apT (apT wf wn) wl) (.mk 9 0 th [wx,wf,wl]),fun u hu=> ?_⟩
   cases hu with
   |node hp=>
    cases hp with|cons h1 h2=>cases h2 with|cons h2 h3=>cases h3 with|cons h3 h4=>cases h4;cases h3 with|node h5=>cases h5 with|cons h5 h6=>cases h6 with|cons h6 h7=>cases h7;exact .fs (hx _ h1) (hf _ h2) (hn _ h5) (hl _ h6)
   |fs h1 h2 h3 h4=>exact app_par (app_par (app_par (hf _ h2) (hn _ h3)) (hl _ h4)) (.node (.cons (hx _ h1) (.cons (hf _ h2) (.cons (hl _ h4) .nil))))
  |p1 i th j s _ y=>
   simp only[Tm.size,Tm.sizes] at ht
   obtain⟨wx,hx⟩:=ih x0 (by omega)
   refine⟨wx,fun u hu=> ?_⟩
   cases hu with
   |node hp=>
    cases hp with|cons h1 h2=>cases h2;cases h1 with|node h5=>cases h5 with|cons h5 h6=>cases h6 with|cons h6 h7=>cases h7;exact .p1 (hx _ h5)
   |p1 h1=>exact hx _ h1
  |p2 i th j s x _=>
   simp only[Tm.size,Tm.sizes] at ht
   obtain⟨wx,hx⟩:=ih x0 (by omega)
   refine⟨wx,fun u hu=> ?_⟩
   cases hu with
   |node hp=>
    cases hp with|cons h1 h2=>cases h2;cases h1 with|node h5=>cases h5 with|cons h5 h6=>cases h6 with|cons h6 h7=>cases h7;exact .p2 (hx _ h6)
   |p2 h1=>exact hx _ h1
 ·obtain ⟨k,i,th,xs⟩:=t
  have hz:=Tm.size_eq (.mk k i th xs)
  simp only[Tm.args_mk] at hz
  obtain⟨ws,hws⟩:=pars_tri xs fun x hx=>ih x (by have:=lsum_mem Tm.size hx;omega)
  refine⟨.mk k i th ws,fun u hu=> ?_⟩
  cases hu with
  |node hp=>exact .node (hws _ hp)
  |beta=>exact absurd ⟨_,.beta ..⟩ hr
  |rz=>exact absurd ⟨_,.rz ..⟩ hr
  |rs=>exact absurd ⟨_,.rs ..⟩ hr
  |fz=>exact absurd ⟨_,.fz ..⟩ hr
  |fs=>exact absurd ⟨_,.fs ..⟩ hr
  |p1=>exact absurd ⟨_,.p1 ..⟩ hr
  |p2=>exact absurd ⟨_,.p2 ..⟩ hr
noncomputable def dev(t:Tm):Tm:=Classical.choose (tri _ t (Nat.le_refl _))
theorem dev_par{t u:Tm}(h:Par t u):Par u (dev t):=Classical.choose_spec (tri _ t (Nat.le_refl _)) u h
theorem dev_mono{t u:Tm}(h:Par t u):Par (dev t) (dev u):=dev_par (dev_par h)
noncomputable def devN:Nat→Tm→Tm
 |0,t=>t
 |n+1,t=>devN n (dev t)
theorem devN_mono:∀(n:Nat) {t u:Tm},Par t u→Par (devN n t) (devN n u)
 |0,_,_,h=>h
 |n+1,_,_,h=>devN_mono n (dev_mono h)
theorem devN_add:∀(n m:Nat) (t:Tm),devN (n+m) t=devN m (devN n t)
 |0,m,t=>by rw[Nat.zero_add];rfl
 |n+1,m,t=>by rw[show n+1+m=(n+m)+1 by omega];exact devN_add n m (dev t)
inductive Pst:Tm→Tm→Prop
 |refl (t:Tm):Pst t t
 |step {t s u:Tm} (h:Par t s) (hs:Pst s u):Pst t u
theorem Pst.trans{t s u:Tm}(h:Pst t s):Pst s u→Pst t u:=by
 induction h with
 |refl=>exact id
 |step h1 _ ih=>exact fun h=> .step h1 (ih h)
theorem Pst.one{t u:Tm}(h:Par t u):Pst t u:= .step h (.refl _)
theorem pst_dev{t u:Tm}(h:Pst t u):∃n,Pst u (devN n t):=by
 induction h with
 |refl t=>exact⟨0,.refl _⟩
 |step h1 _ ih=>
  obtain⟨n,hn⟩:=ih
  exact⟨n+1,hn.trans (.one (devN_mono n (dev_par h1)))⟩
def nf(t:Tm):Prop:=∀u,Par t u→u=t
theorem nf_pst{t u:Tm}(ht:nf t)(h:Pst t u):u=t:=by
 induction h with
 |refl=>rfl
 |step h1 _ ih=>have:=ht _ h1;subst this;exact ih ht
theorem nf_dev{t:Tm}(h:nf t):∀n,devN n t=t
 |0=>rfl
 |n+1=>by
  have:dev t=t:=h _ (dev_par (.refl t))
  show devN n (dev t)=t
  rw[this];exact nf_dev h n
theorem nf_uniq{t u v:Tm}(hu:nf u)(hv:nf v)(h:Pst t u)(h':Pst t v):u=v:=by
 obtain⟨n,hn⟩:=pst_dev h
 obtain⟨m,hm⟩:=pst_dev h'
 have e1:=nf_pst hu hn
 have e2:=nf_pst hv hm
 rcases Nat.le_total n m with hnm|hnm
 ·have:=devN_add n (m-n) t
  rw[show n+(m-n)=m by omega,e1,e2,nf_dev hu] at this
  exact this.symm
 ·have:=devN_add m (n-m) t
  rw[show m+(n-m)=n by omega,e1,e2,nf_dev hv] at this
  exact this
mutual
theorem nx_nf{room:Int}:∀{t u:Tm},Par t u→nxR room t=none→u=t
 |_,_,.node (k:=k) (i:=i) (h:=h) (xs:=xs) (ys:=ys) hp,hn=>by
  rw[nxR_eq] at hn
  by_cases hr:rootT (.mk k i h xs)=true
  ·rw [if_pos hr] at hn;cases hn
  ·rw [if_neg hr] at hn
   simp only[Option.map_eq_none_iff,Tm.args_mk] at hn
   rw[nxs_nf hp hn]
 |_,_,.beta ..,hn=>by rw[nxR_eq] at hn;simp[rootT,Tm.arg] at hn
 |_,_,.rz ..,hn=>by rw[nxR_eq] at hn;simp[rootT,Tm.arg] at hn
 |_,_,.rs ..,hn=>by rw[nxR_eq] at hn;simp[rootT,Tm.arg] at hn
 |_,_,.fz ..,hn=>by rw[nxR_eq] at hn;simp[rootT,Tm.arg] at hn
 |_,_,.fs ..,hn=>by rw[nxR_eq] at hn;simp[rootT,Tm.arg] at hn
 |_,_,.p1 ..,hn=>by rw[nxR_eq] at hn;simp[rootT,Tm.arg] at hn
 |_,_,.p2 ..,hn=>by rw[nxR_eq] at hn;simp[rootT,Tm.arg] at hn
theorem nxs_nf{room:Int}:∀{xs ys:List Tm},Pars xs ys→nxRs room xs=none→ys=xs
 |_,_,.nil,_=>rfl
 |_,_,.cons (x:=x) (xs:=xs) h hs,hn=>by
  simp only[nxRs] at hn
  cases hx:nxR room x with
  |some p=>rw[hx] at hn;cases hn
  |none=>
   rw[hx] at hn
   simp only[Option.map_eq_none_iff] at hn
   rw[nx_nf h hx,nxs_nf hs hn]
end
def nrm:Nat→Tm→Nat→Tm×Int×Int
 |0,t,n=>match nxR (4096-t.size) t with
  |none=>(t,n,0)
  |some _=>(noTm,0,5)
 |k+1,t,n=>match nxR (4096-t.size) t with
  |none=>(t,n,0)
  |some (x,true)=>nrm k x (n+1)
  |some (_,false)=>(noTm,0,4)
def normR(t:Tm)(steps:Int):Tm×Int×Int:=
 if t.err≠0 then(noTm,0,t.err) else if ¬(0≤steps∧steps≤65536)∨t.near=false then(noTm,0,1) else nrm steps.toNat t 0
def mtchR(a b:Tm)(steps:Int):Int:=
 if a.err≠0 then a.err else if b.err≠0 then b.err else if a=b then 0
 else if(normR a steps).2.2≠0 then(normR a steps).2.2 else if(normR b steps).2.2≠0 then(normR b steps).2.2
 else if(normR a steps).1=(normR b steps).1 then 0 else 11
theorem nx_err{t u:Tm}(he:t.err=0)(h:nxR (4096-t.size) t=some (u,true)):u.err=0:=by
 obtain⟨h1,h2⟩:=err_zero he
 obtain⟨h3,h4,_⟩:=nx_facts _ t u h1 h
 exact(Tm.err_iff _).2 ⟨h3,by omega⟩
theorem nrm_ok:∀(k:Nat) (t:Tm) (n:Nat),t.err=0→(nrm k t n).2.2=0→Pst t (nrm k t n).1∧nf (nrm k t n).1∧(nrm k t n).1.err=0
 |0,t,n,he,h=>by
  simp only[nrm] at h ⊢
  cases hx:nxR (4096-t.size) t with
  |none=>rw[hx] at h;exact⟨.refl _,fun u hu=>nx_nf hu hx,he⟩
  |some p=>rw[hx] at h;cases h
 |k+1,t,n,he,h=>by
  simp only[nrm] at h ⊢
  cases hx:nxR (4096-t.size) t with
  |none=>rw[hx] at h;exact⟨.refl _,fun u hu=>nx_nf hu hx,he⟩
  |some p=>
   obtain⟨x,f⟩:=p
   rw[hx] at h
   cases f with
   |false=>cases h
   |true=>
    obtain⟨i1,i2,i3⟩:=nrm_ok k x (n+1) (nx_err he hx) h
    exact⟨.step (nx_par _ t x (err_zero he).1 hx) i1,i2,i3⟩
theorem nrm_lim:∀(k:Nat) (t:Tm) (n:Nat),(nrm k t n).2.2=0∨(nrm k t n).2.2=4∨(nrm k t n).2.2=5
 |0,t,n=>by
  simp only[nrm]
  cases hx:nxR (4096-t.size) t with
  |none=>exact .inl rfl
  |some p=>exact .inr (.inr rfl)
 |k+1,t,n=>by
  simp only[nrm]
  cases hx:nxR (4096-t.size) t with
  |none=>exact .inl rfl
  |some p=>
   obtain⟨x,f⟩:=p
   cases f with
   |false=>exact .inr (.inl rfl)
   |true=>exact nrm_lim k x (n+1)
theorem mtch_pst{t u:Tm}{steps:Int}(h:Pst t u)(ht:t.err=0)(hu:u.err=0)(hn:t.near=true)(hm:u.near=true)(hs:0≤steps∧steps≤65536):
 mtchR t u steps=0∨mtchR t u steps=4∨mtchR t u steps=5:=by
 unfold mtchR
 rw[if_neg (by simp[ht]),if_neg (by simp[hu])]
 by_cases e:t=u
 ·rw [if_pos e];exact .inl rfl
 rw[if_neg e]
 have e1:normR t steps=nrm steps.toNat t 0:=by unfold normR;rw[if_neg (by simp[ht]),if_neg (by simp[hs,hn])]
 have e2:normR u steps=nrm steps.toNat u 0:=by unfold normR;rw[if_neg (by simp[hu]),if_neg (by simp[hs,hm])]
 rw[e1,e2]
 by_cases h1:(nrm steps.toNat t 0).2.2=0
 ·rw [if_neg (by simp[h1])]
  by_cases h2:(nrm steps.toNat u 0).2.2=0
  ·rw [if_neg (by simp[h2])]
   obtain⟨a1,a2,_⟩:=nrm_ok _ _ _ ht h1
   obtain⟨b1,b2,_⟩:=nrm_ok _ _ _ hu h2
   rw[if_pos (nf_uniq a2 b2 a1 (h.trans b1))]
   exact .inl rfl
  ·rw [if_pos h2]
   rcases nrm_lim steps.toNat u 0 with h|h|h
   ·exact absurd h h2
   ·exact .inr (.inl h)
   ·exact .inr (.inr h)
 ·rw [if_pos h1]
  rcases nrm_lim steps.toNat t 0 with h|h|h
  ·exact absurd h h1
  ·exact .inr (.inl h)
  ·exact .inr (.inr h)
theorem norm_full(t:Tm)(steps:Int)(h:(normR t steps).2.2=0):(normR t steps).1.full<274877906944:=by
 unfold normR at h ⊢
 by_cases he:t.err=0
 ·rw [if_neg (by simp[he])] at h ⊢
  by_cases hc:¬(0≤steps∧steps≤65536)∨t.near=false
  ·rw [if_pos hc] at h;cases h
  ·rw [if_neg hc] at h ⊢
   obtain⟨_,_,h3⟩:=nrm_ok _ _ _ he h
   have:=terr_full h3
   omega
 ·rw [if_pos he] at h;exact absurd h he
def mtTs:List Tm→List Tm→Int
 |x::l,y::m=>if mtchR x y 1000≠0 then mtchR x y 1000 else mtTs l m
 |_,_=>0
mutual
def mtF:Fm→Fm→Int
 | .mk k ty ts xs,.mk k' ty' ts' xs'=>if k=k'∧ty=ty' then(if mtTs ts ts'≠0 then mtTs ts ts' else mtFs xs xs') else 11
def mtFs:List Fm→List Fm→Int
 |x::l,y::m=>if mtF x y≠0 then mtF x y else mtFs l m
 |_,_=>0
end
theorem mtF_eq(f g:Fm):mtF f g=if f.kind=g.kind∧f.ty=g.ty then(if mtTs f.terms g.terms≠0 then mtTs f.terms g.terms else mtFs f.args g.args) else 11:=by
 cases f;cases g;simp only[mtF];rfl
theorem mtTs_at:∀(l m:List Tm) (i:Nat) (hi:i<l.length) (hj:i<m.length),(∀j (h1:j<l.length) (h2:j<m.length),j<i→mtchR l[j] m[j] 1000=0)→mtchR l[i] m[i] 1000≠0→mtTs l m=mtchR l[i] m[i] 1000
 |x::l,y::m,0,_,_,_,h=>by simp only[List.getElem_cons_zero] at h ⊢;simp only[mtTs];rw[if_pos h]
 |x::l,y::m,i+1,hi,hj,hn,h=>by
  have h0:=hn 0 (by simp) (by simp) (by omega)
  simp only[mtTs]
  rw[if_neg (by simpa using h0)]
  exact mtTs_at l m i (by simpa using hi) (by simpa using hj) (fun j h1 h2 hji=>by have:=hn (j+1) (by simpa using h1) (by simpa using h2) (by omega);simpa using this) (by simpa using h)
theorem mtTs_none:∀(l m:List Tm),(∀j (h1:j<l.length) (h2:j<m.length),mtchR l[j] m[j] 1000=0)→mtTs l m=0
 |[],_,_=>by simp only[mtTs]
 |_::_,[],_=>by simp only[mtTs]
 |x::l,y::m,hn=>by
  have h0:=hn 0 (by simp) (by simp)
  simp only[mtTs]
  rw[if_neg (by simpa using h0)]
  exact mtTs_none l m fun j h1 h2=>by have:=hn (j+1) (by simpa using h1) (by simpa using h2);simpa using this
theorem mtFs_at:∀(l m:List Fm) (i:Nat) (hi:i<l.length) (hj:i<m.length),(∀j (h1:j<l.length) (h2:j<m.length),j<i→mtF l[j] m[j]=0)→mtF l[i] m[i]≠0→mtFs l m=mtF l[i] m[i]
 |x::l,y::m,0,_,_,_,h=>by simp only[List.getElem_cons_zero] at h ⊢;simp only[mtFs];rw[if_pos h]
 |x::l,y::m,i+1,hi,hj,hn,h=>by
  have h0:=hn 0 (by simp) (by simp) (by omega)
  simp only[mtFs]
  rw[if_neg (by simpa using h0)]
  exact mtFs_at l m i (by simpa using hi) (by simpa using hj) (fun j h1 h2 hji=>by have:=hn (j+1) (by simpa using h1) (by simpa using h2) (by omega);simpa using this) (by simpa using h)
theorem mtFs_none:∀(l m:List Fm),(∀j (h1:j<l.length) (h2:j<m.length),mtF l[j] m[j]=0)→mtFs l m=0
 |[],_,_=>by simp only[mtFs]
 |_::_,[],_=>by simp only[mtFs]
 |x::l,y::m,hn=>by
  have h0:=hn 0 (by simp) (by simp)
  simp only[mtFs]
  rw[if_neg (by simpa using h0)]
  exact mtFs_none l m fun j h1 h2=>by have:=hn (j+1) (by simpa using h1) (by simpa using h2);simpa using this
def mtchF(f g:Fm):Int:=if f.err≠0 then f.err else if g.err≠0 then g.err else mtF f g
theorem gszs_eq:∀l:List Tm,Tm.gszs l=(l.map Tm.size).sum∧∀x∈l,x.gsz=x.size:=by
 have key:∀t:Tm,t.gsz=t.size:=by
  intro t
  induction t using Tm.ind with
  |h t ih=>
   obtain⟨k,i,th,as⟩:=t
   simp only[Tm.gsz,Tm.size,Tm.args_mk] at ih ⊢
   congr 1
   clear k i th
   induction as with
   |nil=>rfl
   |cons x l ih2=>
    simp only[Tm.gszs,Tm.sizes]
    rw[ih x List.mem_cons_self,ih2 fun y hy=>ih y (List.mem_cons_of_mem _ hy)]
 intro l
 refine⟨?_,fun x _=>key x⟩
 induction l with
 |nil=>rfl
 |cons x l ih=>simp only[Tm.gszs,key,ih,List.map_cons,List.sum_cons]
theorem gsz_eq(t:Tm):t.gsz=t.size:=(gszs_eq [t]).2 t (by simp)
theorem gfrs_take:∀(l:List Tm) (n:Int) (m:Nat) (hm:m<l.length),Tm.gfrs (l.take (m+1)) n=max (Tm.gfrs (l.take m) n) (l[m]).gfr
 |[],n,m,hm=>by simp at hm
 |x::l,n,0,hm=>by simp[Tm.gfrs]
 |x::l,n,m+1,hm=>by
  simp only[List.take_succ_cons,Tm.gfrs,List.getElem_cons_succ]
  exact gfrs_take l _ m (by simpa using hm)
theorem gfrs_ge:∀(l:List Tm) (n:Int),n≤Tm.gfrs l n∧∀x∈l,x.gfr≤Tm.gfrs l n
 |[],n=>⟨Int.le_refl _,fun x hx=>by cases hx⟩
 |x::l,n=>by
  obtain⟨h1,h2⟩:=gfrs_ge l (max n x.gfr)
  simp only[Tm.gfrs]
  refine⟨by omega,fun y hy=> ?_⟩
  rcases List.mem_cons.1 hy with rfl|hy
  ·omega
  ·exact h2 y hy
theorem gfrs_le{M:Int}:∀(l:List Tm) (n:Int),n≤M→(∀x∈l,x.gfr≤M)→Tm.gfrs l n≤M
 |[],n,h,_=>h
 |x::l,n,h,h2=>by
  simp only[Tm.gfrs]
  exact gfrs_le l _ (by have:=h2 x List.mem_cons_self;omega) fun y hy=>h2 y (List.mem_cons_of_mem _ hy)
theorem gfr_eq(t:Tm):t.gfr=if t.kind=1 then t.index+1 else if t.kind=2 then max 0 (Tm.gfrs t.args 0-1) else Tm.gfrs t.args 0:=by cases t;simp only[Tm.gfr];rfl
theorem vars_gfr(t:Tm):∀b:Int,t.shape=true→∀p∈t.vars b,p.1+1≤t.gfr+(p.2-b):=by
 induction t using Tm.ind with
 |h t ih=>
  intro b hs p hp
  rw[Tm.vars_eq] at hp
  rw[gfr_eq]
  rcases List.mem_append.1 hp with h|h
  ·split at h
   ·rename_i hk
    simp only[List.mem_singleton] at h
    subst h
    rw[if_pos hk];simp
   ·cases h
  ·obtain ⟨x,hx,h⟩:=List.mem_flatMap.1 h
   have h1:=ih x hx _ (shape_args hs x hx) p h
   have h2:=(gfrs_ge t.args 0).2 x hx
   by_cases h3:t.kind=1
   ·obtain ⟨i,th,rfl⟩:=mkArgs0 hs h3 rfl
    cases hx
   rw[if_neg h3]
   by_cases h4:t.kind=2
   ·rw [if_pos h4]
    simp only[up,if_pos h4] at h1
    omega
   ·rw [if_neg h4]
    simp only[up,if_neg h4] at h1
    omega
theorem gfr_pos(t:Tm):t.shape=true→0≤t.gfr:=by
 intro hs
 rw[gfr_eq]
 have h:=(gfrs_ge t.args 0).1
 by_cases h3:t.kind=1
 ·rw [if_pos h3]
  have:=(shape_index hs).1
  omega
 rw[if_neg h3]
 split<;>omega
theorem gfr_bd{B:Int}(hB:0≤B)(t:Tm):∀b:Int,(∀p∈t.vars b,p.1<B)→t.gfr≤B:=by
 induction t using Tm.ind with
 |h t ih=>
  intro b h
  rw[gfr_eq]
  have h0:Tm.gfrs t.args 0≤B:=gfrs_le _ _ hB fun x hx=>ih x hx (up t.kind b) fun p hp=>h p (by
   rw[Tm.vars_eq];exact List.mem_append_right _ (List.mem_flatMap.2 ⟨x,hx,hp⟩))
  by_cases h3:t.kind=1
  ·rw [if_pos h3]
   have:=h (t.index,b) (by rw[Tm.vars_eq,if_pos h3];simp)
   simp only at this
   omega
  rw[if_neg h3]
  split<;>omega
theorem lift_gfr{fr by_ b:Int}{t:Tm}(hs:t.shape=true)(h:t.gfr≤fr+b):t.re (liftG fr by_) b=t:=
 re_id t b hs fun p hp=>by
  have:=vars_gfr t b hs p hp
  simp only[liftG,vT]
  rw[if_neg (by omega)]
theorem put_gfr{at_ b:Int}{s t:Tm}(hs:t.shape=true)(h:t.gfr≤at_+b):t.re (putG at_ s) b=t:=
 re_id t b hs fun p hp=>by
  have:=vars_gfr t b hs p hp
  simp only[putG,vT]
  rw[if_neg (by omega),if_neg (by omega)]
theorem rootG_eq(t:Tm):rootG t.kind t.args=rootT t:=by
 have h:∀i,kindAt t.args i=(t.arg i).kind:=fun i=>by
  simp only[kindAt,Tm.arg,List.getD_eq_getElem?_getD]
  cases t.args[i]? <;>rfl
 simp only[rootG,rootT,h]
theorem gnf_eq(t:Tm):t.gnf=(!rootT t&&Tm.gnfs t.args):=by
 rw[←rootG_eq];cases t;simp only[Tm.gnf];rfl
theorem gnfs_iff:∀l:List Tm,Tm.gnfs l=true↔∀x∈l,x.gnf=true
 |[]=>by simp[Tm.gnfs]
 |x::l=>by simp only[Tm.gnfs,Bool.and_eq_true,gnfs_iff l,List.mem_cons,forall_eq_or_imp]
theorem gnf_nx(room:Int)(t:Tm):t.gnf=true↔nxR room t=none:=by
 induction t using Tm.ind with
 |h t ih=>
  rw[gnf_eq,nxR_eq,Bool.and_eq_true]
  by_cases hr:rootT t=true
  ·rw [if_pos hr];simp[hr]
  ·rw [if_neg hr]
   have hl:∀l:List Tm,(∀x∈l,(x.gnf=true↔nxR room x=none))→(Tm.gnfs l=true↔nxRs room l=none):=by
    intro l
    induction l with
    |nil=>intro _;simp[Tm.gnfs,nxRs]
    |cons x l ih2=>
     intro h
     have h1:=h x List.mem_cons_self
     have h2:=ih2 fun y hy=>h y (List.mem_cons_of_mem _ hy)
     simp only[Tm.gnfs,nxRs,Bool.and_eq_true,h1,h2]
     cases nxR room x<;>simp
   rw[hl t.args ih]
   simp[hr]
theorem cnt_gfr{at_ b:Int}{t:Tm}(hs:t.shape=true)(h:t.gfr≤at_+b):cnt at_ (t.vars b)=0:=by
 simp only[cnt,List.length_eq_zero_iff,List.filter_eq_nil_iff,beq_iff_eq]
 intro p hp
 have:=vars_gfr t b hs p hp
 omega
theorem put_idx{M at_ b:Int}{s t:Tm}(hM:0≤M)(hs:s.shape=true)(ht:t.shape=true)(h1:∀p∈s.vars 0,p.1<M)(h2:∀p∈t.vars b,p.1<M):∀p∈(t.re (putG at_ s) b).vars b,p.1<2*M:=by
 intro p hp
 rw[vars_re _ _ _ ht] at hp
 obtain⟨q,hq,hp⟩:=List.mem_flatMap.1 hp
 have hq1:=h2 q hq
 rw[putG_eq] at hp
 by_cases h0:q.1-q.2=at_
 ·rw [if_pos h0] at hp
  have e:(s.re (liftG 0 (at_+q.2)) 0).vars q.2=((s.re (liftG 0 (at_+q.2)) 0).vars 0).map fun p=>(p.1,p.2+q.2):=by have:=vars_shift (s.re (liftG 0 (at_+q.2)) 0) 0 q.2;simpa using this
  rw[e,lift_vars _ _ _ _ hs,List.map_map,List.mem_map] at hp
  obtain⟨r,hr,rfl⟩:=hp
  have h3:=h1 r hr
  simp only[Function.comp_apply]
  split<;>omega
 ·rw [if_neg h0,vars_vT] at hp
  simp only[List.mem_singleton] at hp
  subst hp
  simp only
  split<;>omega
theorem cnt_args{at_ b:Int}{t:Tm}(hk:¬t.kind=1):(cnt at_ (t.vars b))=((t.args.map fun x=>cnt at_ (x.vars (up t.kind b))).sum):=by
 rw[Tm.vars_eq,if_neg hk,List.nil_append]
 generalize t.args=l
 induction l with
 |nil=>rfl
 |cons x l ih=>rw[List.flatMap_cons,cnt_append,ih];rfl
theorem cnt_size(at_ b:Int)(t:Tm):cnt at_ (t.vars b)≤t.size:=Nat.le_trans (cnt_le _ _) (t.vars_len b)
theorem idx_sub{t x:Tm}{B:Int}(hx:x∈t.args)(h:∀p∈t.vars 0,p.1<B):∀p∈x.vars 0,p.1<B:=by
 intro p hp
 have e:=vars_shift x 0 (up t.kind 0)
 have hm:(p.1,p.2+up t.kind 0)∈t.vars 0:=by
  rw[Tm.vars_eq]
  refine List.mem_append_right _ (List.mem_flatMap.2 ⟨x,hx,?_⟩)
  rw[Int.zero_add] at e
  rw[e]
  exact List.mem_map.2 ⟨p,hp,rfl⟩
 exact h (p.1,p.2+up t.kind 0) hm
theorem idx_node{k i:Int}{th:Ty}{xs:List Tm}{B:Int}(hk:¬k=1)(h:∀x∈xs,∀p∈x.vars 0,p.1<B):∀p∈(Tm.mk k i th xs).vars 0,p.1<B:=by
 intro p hp
 rw[Tm.vars_eq,Tm.kind_mk,if_neg hk,List.nil_append] at hp
 obtain⟨x,hx,hp⟩:=List.mem_flatMap.1 hp
 simp only[Tm.kind_mk,Tm.args_mk] at hx hp
 have e:=vars_shift x 0 (up k 0)
 rw[Int.zero_add] at e
 rw[e] at hp
 obtain⟨q,hq,rfl⟩:=List.mem_map.1 hp
 exact h x hx q hq
theorem foldl_take(f:Tm)(l:List Tm)(m:Nat)(hm:m<l.length):(l.take (m+1)).foldl apT f=apT ((l.take m).foldl apT f) l[m]:=by
 rw[←List.take_append_getElem hm,List.foldl_append];rfl
theorem vars_dep(t:Tm):∀b:Int,∀p∈t.vars b,p.2<b+t.size:=by
 induction t using Tm.ind with
 |h t ih=>
  intro b p hp
  have hz:=t.size_eq
  rw[t.vars_eq,List.mem_append] at hp
  rcases hp with hp|hp
  ·split at hp
   ·simp at hp;subst hp;simp only;omega
   ·cases hp
  ·obtain ⟨x,hx,hp⟩:=List.mem_flatMap.1 hp
   have h1:=ih x hx _ p hp
   have h2:=lsum_mem Tm.size hx
   have:up t.kind b≤b+1:=by simp only[up];split<;>omega
   omega
@[simp] theorem Pf.kind_mk(k i:Int)(h:Ty)(ts:List Tm)(fs:List Fm)(as:List Pf):(Pf.mk k i h ts fs as).kind=k:=rfl
@[simp] theorem Pf.index_mk(k i:Int)(h:Ty)(ts:List Tm)(fs:List Fm)(as:List Pf):(Pf.mk k i h ts fs as).index=i:=rfl
@[simp] theorem Pf.ty_mk(k i:Int)(h:Ty)(ts:List Tm)(fs:List Fm)(as:List Pf):(Pf.mk k i h ts fs as).ty=h:=rfl
@[simp] theorem Pf.terms_mk(k i:Int)(h:Ty)(ts:List Tm)(fs:List Fm)(as:List Pf):(Pf.mk k i h ts fs as).terms=ts:=rfl
@[simp] theorem Pf.forms_mk(k i:Int)(h:Ty)(ts:List Tm)(fs:List Fm)(as:List Pf):(Pf.mk k i h ts fs as).forms=fs:=rfl
@[simp] theorem Pf.args_mk(k i:Int)(h:Ty)(ts:List Tm)(fs:List Fm)(as:List Pf):(Pf.mk k i h ts fs as).args=as:=rfl
structure Nd where
 terms:Nat
 forms:Nat
 args:Nat
 index:Bool
 typ:Bool
def noNd:Nd:=⟨0,0,0,false,false⟩
def ndP(k:Int):Option Nd:=
 if k=1∨k=2 then some ⟨0,0,0,true,false⟩
 else if k=3∨k=7 then some ⟨0,0,2,false,false⟩
 else if k=4∨k=5∨k=20 then some ⟨0,0,1,false,false⟩
 else if k=6 then some ⟨0,1,1,false,false⟩
 else if k=8∨k=12 then some ⟨0,0,1,false,true⟩
 else if k=9∨k=13 then some ⟨1,0,1,false,false⟩
 else if k=10∨k=14 then some ⟨1,1,1,false,false⟩
 else if k=11∨k=15 then some ⟨0,0,2,false,false⟩
 else if k=16∨k=17 then some ⟨1,1,2,false,false⟩
 else if k=18 then some ⟨1,0,0,false,false⟩
 else if k=19 then some ⟨0,1,2,false,false⟩ else none
def Nd.view(n:Nd):List V:=[.i n.terms,.i n.forms,.i n.args,.bool n.index,.bool n.typ]
def Pf.head(p:Pf):Bool:=match ndP p.kind with
 |none=>false
 |some n=>p.terms.length==n.terms&&p.forms.length==n.forms&&p.args.length==n.args&&decide (0≤p.index)&&(n.index||p.index==0)&&(if n.typ=true then p.ty.ok else p.ty.isNo)
mutual
def Pf.shape:Pf→Bool
 | .mk k i h ts fs as=>Pf.head (.mk k i h ts fs as)&&ts.all Tm.shape&&fs.all Fm.shape&&Pf.shapes as
def Pf.shapes:List Pf→Bool
 |[]=>true
 |f::l=>f.shape&&Pf.shapes l
end
mutual
def Pf.size:Pf→Nat
 | .mk _ _ _ ts fs as=>1+(ts.map Tm.size).sum+(fs.map Fm.size).sum+Pf.sizes as
def Pf.sizes:List Pf→Nat
 |[]=>0
 |f::l=>f.size+Pf.sizes l
end
mutual
def Pf.full:Pf→Nat
 | .mk _ _ h ts fs as=>1+h.size+(ts.map Tm.full).sum+(fs.map Fm.full).sum+Pf.fulls as
def Pf.fulls:List Pf→Nat
 |[]=>0
 |f::l=>f.full+Pf.fulls l
end
mutual
def Pf.small:Pf→Bool
 | .mk _ _ _ ts fs as=>ts.all (fun t=>decide (t.size≤4096))&&fs.all (fun f=>decide (f.size≤4096))&&Pf.smalls as
def Pf.smalls:List Pf→Bool
 |[]=>true
 |f::l=>f.small&&Pf.smalls l
end
theorem Pf.shapes_eq:∀l:List Pf,Pf.shapes l=l.all Pf.shape
 |[]=>rfl
 |f::l=>by rw[Pf.shapes,Pf.shapes_eq l];rfl
theorem Pf.sizes_eq:∀l:List Pf,Pf.sizes l=(l.map Pf.size).sum
 |[]=>rfl
 |f::l=>by rw[Pf.sizes,Pf.sizes_eq l];rfl
theorem Pf.fulls_eq:∀l:List Pf,Pf.fulls l=(l.map Pf.full).sum
 |[]=>rfl
 |f::l=>by rw[Pf.fulls,Pf.fulls_eq l];rfl
theorem Pf.smalls_eq:∀l:List Pf,Pf.smalls l=l.all Pf.small
 |[]=>rfl
 |f::l=>by rw[Pf.smalls,Pf.smalls_eq l];rfl
theorem Pf.shape_eq(p:Pf):p.shape=(p.head&&p.terms.all Tm.shape&&p.forms.all Fm.shape&&p.args.all Pf.shape):=by cases p;simp only[Pf.shape,Pf.shapes_eq];rfl
theorem Pf.size_eq(p:Pf):p.size=1+(p.terms.map Tm.size).sum+(p.forms.map Fm.size).sum+(p.args.map Pf.size).sum:=by cases p;simp only[Pf.size,Pf.sizes_eq];rfl
theorem Pf.full_eq(p:Pf):p.full=1+p.ty.size+(p.terms.map Tm.full).sum+(p.forms.map Fm.full).sum+(p.args.map Pf.full).sum:=by cases p;simp only[Pf.full,Pf.fulls_eq];rfl
theorem Pf.small_eq(p:Pf):p.small=(p.terms.all (fun t=>decide (t.size≤4096))&&p.forms.all (fun f=>decide (f.size≤4096))&&p.args.all Pf.small):=by cases p;simp only[Pf.small,Pf.smalls_eq];rfl
theorem Pf.full_pos(p:Pf):1≤p.full:=by rw[Pf.full_eq];omega
theorem Pf.size_pos(p:Pf):1≤p.size:=by rw[Pf.size_eq];omega
theorem Pf.ind{P:Pf→Prop}(h:∀f,(∀x∈f.args,P x)→P f)(f:Pf):P f:=by
 have:∀n,∀f:Pf,f.full≤n→P f:=by
  intro n
  induction n with
  |zero=>intro f h;have:=f.full_pos;omega
  |succ n ih=>
   intro f hf
   refine h f fun x hx=>ih x ?_
   have:=lsum_mem Pf.full hx
   have:=f.full_eq
   omega
 exact this _ f (Nat.le_refl _)
theorem Pf.size_le_full(p:Pf):p.size≤p.full:=by
 induction p using Pf.ind with
 |h p ih=>
  rw[p.size_eq,p.full_eq]
  have h1:=lsum_le (f:=Pf.size) (g:=Pf.full) p.args ih
  have h2:=lsum_le (f:=Tm.size) (g:=Tm.full) p.terms fun x _=>x.size_le_full
  have h3:=lsum_le (f:=Fm.size) (g:=Fm.full) p.forms fun x _=>x.size_le_full
  omega
def Pf.err(p:Pf):Int:=if p.shape=false then 2 else if p.small=false∨p.size>16384 then 4 else 0
theorem Pf.err_iff(p:Pf):p.err=0↔p.shape=true∧p.small=true∧p.size≤16384:=by
 unfold Pf.err
 cases hs:p.shape with
 |false=>simp
 |true=>
  cases hm:p.small with
  |false=>simp
  |true=>
   by_cases h:p.size>16384
   ·rw [if_neg (by simp),if_pos (.inr h)];constructor
    ·intro h;cases h
    ·rintro ⟨_,_,h2⟩;omega
   ·rw [if_neg (by simp),if_neg (by simp;omega)];exact⟨fun _=>⟨rfl,rfl,by omega⟩,fun _=>rfl⟩
def noPf:Pf:= .mk 0 0 (.mk 0 []) [] [] []
def reflP(t:Tm):Pf:= .mk 18 0 (.mk 0 []) [t] [] []
theorem same_lens{f g:Fm}(hf:f.shape=true)(hg:g.shape=true)(hk:f.kind=g.kind):f.terms.length=g.terms.length∧f.args.length=g.args.length:=by
 rw[Fm.shape_eq,Bool.and_eq_true,Bool.and_eq_true] at hf hg
 have h1:=hf.1.1
 have h2:=hg.1.1
 unfold Fm.head at h1 h2
 rw[←hk] at h2
 by_cases k1:f.kind=1
 ·rw [if_pos k1] at h1 h2
  simp only[Bool.and_eq_true,beq_iff_eq] at h1 h2
  omega
 rw[if_neg k1] at h1 h2
 by_cases k2:f.kind=2∨f.kind=3
 ·rw [if_pos k2] at h1 h2
  simp only[Bool.and_eq_true,beq_iff_eq] at h1 h2
  omega
 rw[if_neg k2] at h1 h2
 by_cases k4:f.kind=4∨f.kind=5∨f.kind=6∨f.kind=7
 ·rw [if_pos k4] at h1 h2
  simp only[Bool.and_eq_true,beq_iff_eq] at h1 h2
  omega
 rw[if_neg k4] at h1
 cases h1
def stpT(t:Tm):Tm:=if t.err≠0 then t else if t.near=false then t else match nxR (4096-t.size) t with|some (u,true)=>u|_=>t
def iterT:Nat→Tm→Tm|0,t=>t|k+1,t=>iterT k (stpT t)
def redTm(d:Dk)(t:Tm):Tm×Dk:=(iterT (d.next 4).1.toNat t,(d.next 4).2)
def redTs:Dk→List Tm→List Tm×Dk
 |d,[]=>([],d)
 |d,t::l=>((redTm d t).1::(redTs (redTm d t).2 l).1,(redTs (redTm d t).2 l).2)
mutual
def redF:Dk→Fm→Fm×Dk
 |d,.mk k ty ts fs=>(.mk k ty (redTs d ts).1 (redFs (redTs d ts).2 fs).1,(redFs (redTs d ts).2 fs).2)
def redFs:Dk→List Fm→List Fm×Dk
 |d,[]=>([],d)
 |d,f::l=>((redF d f).1::(redFs (redF d f).2 l).1,(redFs (redF d f).2 l).2)
end
theorem redF_eq(d:Dk)(f:Fm):redF d f=(.mk f.kind f.ty (redTs d f.terms).1 (redFs (redTs d f.terms).2 f.args).1,(redFs (redTs d f.terms).2 f.args).2):=by cases f;simp only[redF];rfl
theorem redTs_snoc:∀(l:List Tm) (d:Dk) (t:Tm),redTs d (l++[t])=((redTs d l).1++[(redTm (redTs d l).2 t).1],(redTm (redTs d l).2 t).2)
 |[],d,t=>rfl
 |x::l,d,t=>by simp only[List.cons_append,redTs,redTs_snoc l]
theorem redFs_snoc:∀(l:List Fm) (d:Dk) (t:Fm),redFs d (l++[t])=((redFs d l).1++[(redF (redFs d l).2 t).1],(redF (redFs d l).2 t).2)
 |[],d,t=>by simp only[List.nil_append,redFs]
 |x::l,d,t=>by simp only[List.cons_append,redFs,redFs_snoc l]
theorem redTs_take(d:Dk)(l:List Tm)(m:Nat)(hm:m<l.length):redTs d (l.take (m+1))=((redTs d (l.take m)).1++[(redTm (redTs d (l.take m)).2 l[m]).1],(redTm (redTs d (l.take m)).2 l[m]).2):=by
 rw[←List.take_append_getElem hm,redTs_snoc]
theorem redFs_take(d:Dk)(l:List Fm)(m:Nat)(hm:m<l.length):redFs d (l.take (m+1))=((redFs d (l.take m)).1++[(redF (redFs d (l.take m)).2 l[m]).1],(redF (redFs d (l.take m)).2 l[m]).2):=by
 rw[←List.take_append_getElem hm,redFs_snoc]
theorem redTs_ok:∀(l:List Tm) (d:Dk),d.ok→(redTs d l).2.ok
 |[],d,h=>h
 |x::l,d,h=>by simp only[redTs];exact redTs_ok l _ (Dk.next_ok h 4)
theorem redF_ok(f:Fm):∀d:Dk,d.ok→(redF d f).2.ok:=by
 induction f using Fm.ind with
 |h f ih=>
  intro d h
  rw[redF_eq]
  have key:∀(l:List Fm),(∀x∈l,∀d:Dk,d.ok→(redF d x).2.ok)→∀d:Dk,d.ok→(redFs d l).2.ok:=by
   intro l
   induction l with
   |nil=>intro _ d h;simpa only[redFs] using h
   |cons x l ih2=>intro h2 d h;simp only[redFs];exact ih2 (fun y hy=>h2 y (List.mem_cons_of_mem _ hy)) _ (h2 x List.mem_cons_self d h)
  exact key f.args ih _ (redTs_ok _ _ h)
theorem redFs_ok(l:List Fm):∀d:Dk,d.ok→(redFs d l).2.ok:=by
 induction l with
 |nil=>intro d h;simpa only[redFs] using h
 |cons x l ih2=>intro d h;simp only[redFs];exact ih2 _ (redF_ok x d h)
theorem stpT_bd(t:Tm):(stpT t).full≤max t.full 266240:=by
 unfold stpT
 by_cases he:t.err=0
 ·rw [if_neg (by simp[he])]
  split
  ·omega
  ·split
   ·rename_i u h
    have:=terr_full (nx_err he h)
    omega
   ·omega
 ·rw [if_pos he];omega
theorem iterT_bd:∀(k:Nat) (t:Tm),(iterT k t).full≤max t.full 266240
 |0,t=>by simp only[iterT];omega
 |k+1,t=>by simp only[iterT];have:=iterT_bd k (stpT t);have:=stpT_bd t;omega
theorem iterT_succ:∀(k:Nat) (t:Tm),iterT (k+1) t=stpT (iterT k t)
 |0,t=>rfl
 |k+1,t=>by rw[iterT,iterT_succ k (stpT t)];rfl
theorem redTs_full:∀(l:List Tm) (d:Dk),((redTs d l).1.map Tm.full).sum≤(l.map Tm.full).sum*266241
 |[],d=>by simp[redTs]
 |x::l,d=>by
  simp only[redTs,List.map_cons,List.sum_cons]
  have h1:=redTs_full l (redTm d x).2
  have h2:(redTm d x).1.full≤max x.full 266240:=iterT_bd _ _
  have:=x.full_pos
  omega
theorem redF_full(f:Fm):∀d:Dk,(redF d f).1.full≤f.full*266241:=by
 induction f using Fm.ind with
 |h f ih=>
  intro d
  rw[redF_eq,Fm.full_eq,f.full_eq]
  have key:∀(l:List Fm),(∀x∈l,∀d:Dk,(redF d x).1.full≤x.full*266241)→∀d:Dk,((redFs d l).1.map Fm.full).sum≤(l.map Fm.full).sum*266241:=by
   intro l
   induction l with
   |nil=>intro _ d;simp[redFs]
   |cons x l ih2=>
    intro h2 d
    simp only[redFs,List.map_cons,List.sum_cons]
    have h3:=ih2 (fun y hy=>h2 y (List.mem_cons_of_mem _ hy)) (redF d x).2
    have h4:=h2 x List.mem_cons_self d
    omega
  have h1:=key f.args ih (redTs d f.terms).2
  have h2:=redTs_full f.terms d
  simp only[Fm.kind_mk,Fm.ty_mk,Fm.terms_mk,Fm.args_mk]
  omega
theorem redTs_len:∀(l:List Tm) (d:Dk),(redTs d l).1.length=l.length
 |[],d=>rfl
 |x::l,d=>by simp only[redTs,List.length_cons,redTs_len l]
theorem redFs_len:∀(l:List Fm) (d:Dk),(redFs d l).1.length=l.length
 |[],d=>by simp only[redFs]
 |x::l,d=>by simp only[redFs,List.length_cons,redFs_len l]
structure RK (c:EC) where
 pre:c.sem→List Yn
 args:c.sem→List c.sem
 set:c.sem→List c.sem→c.sem
 sz:c.sem→Nat
 yn:c.sem→List Yn
 yn_eq:∀x,yn x=pre x++[.row c (args x).length ((args x).flatMap yn)]
 pre_len:∀x,(pre x).length+1=c.cells
 er:∀x,Ers (yn x) (c.view x)
 view_set:∀x xs,c.view (set x xs)=(c.view x).take (c.cells-1)++[.slice .any (.t c xs)]
 sz_set:∀x xs,sz (set x xs)+((args x).map sz).sum=sz x+(xs.map sz).sum
 sz_lt:∀x,∀a∈args x,sz a<sz x
variable {c:EC}
def RK.at_(KD:RK c)(x:c.sem)(k:Nat)(s:c.sem):c.sem:=KD.set x ((KD.args x).take k++s::(KD.args x).drop (k+1))
theorem RK.yn_len(KD:RK c)(x:c.sem):(KD.yn x).length=c.cells:=by
 have:=KD.pre_len x
 rw[KD.yn_eq,List.length_append];simpa using this
theorem RK.yns_len(KD:RK c):∀l:List c.sem,(l.flatMap KD.yn).length=l.length*c.cells
 |[]=>by simp
 |x::l=>by rw[List.flatMap_cons,List.length_append,KD.yn_len,KD.yns_len l,List.length_cons,Nat.add_mul];omega
theorem RK.ers(KD:RK c):∀l:List c.sem,Ers (l.flatMap KD.yn) (l.flatMap c.view)
 |[]=> .nil
 |x::l=>by rw[List.flatMap_cons,List.flatMap_cons];exact(KD.er x).app (KD.ers l)
theorem take_mid{α:Type}(l:List α){k:Nat}(hk:k<l.length):l=l.take k++l[k]::l.drop (k+1):=by
 rw[←List.drop_eq_getElem_cons hk,List.take_append_drop]
theorem YM.row_inv{s:Prop}{c:EC}{n:Nat}{cells:List Yn}{v:V}{y:Ys}(h:YM s (.row c n cells) v y)(hn:0<n):
 ∃b room cap cs y2,v= .rs b n cap∧y=(b,room,cs)::y2∧(s→room=cap*c.cells)∧n≤cap∧cells.length=n*c.cells∧YMs s cells cs y2:=by
 cases h with
 |nil=>omega
 |row _ _ _ b room cap cs2 ys hroom hcap hn0 hl h5=>exact⟨b,room,cap,cs2,ys,rfl,rfl,hroom,hcap,hl,h5⟩
theorem perm_next(p q:Nat×Nat×List V)(l1 l2 l3:Ys):(q::((p::(l1++l2))++l3)).Perm (p::(l1++(q::(l2++l3)))):=by
 rw[List.cons_append,List.append_assoc]
 exact(List.Perm.swap _ _ _).trans (List.perm_middle.symm.cons _)
theorem perm_mid(l1 l2 l3:Ys):(l1++(l2++l3)).Perm (l2++(l1++l3)):=by
 rw[←List.append_assoc,←List.append_assoc]
 exact List.perm_append_comm.append_right _
theorem RK.desc(KD:RK c){x:c.sem}{cs:List V}{yx:Ys}(h:YMs True (KD.yn x) cs yx){k:Nat}(hk:k<(KD.args x).length):
 ∃cs0 b cap csA csL csB yL yc,cs=cs0++[.rs b (KD.args x).length cap]∧cs0.length+1=c.cells∧csA.length=k*c.cells∧csL.length=c.cells∧YMs True (KD.yn (KD.args x)[k]) csL yL∧
  yx.Perm ((b,cap*c.cells,csA++csL++csB)::(yL++yc))∧((∀v∈csA,V.free v)∧∀v∈csB,V.free v)∧
  ∀csL' L' yL' s',csL'.length=c.cells→YMs False L' csL' yL'→Ers L' (c.view s')→∃X yX,YMs False X cs yX∧Ers X (c.view (KD.at_ x k s'))∧
   yX.Perm ((b,cap*c.cells,csA++csL'++csB)::(yL'++yc)):=by
 have hpl:=KD.pre_len x
 rw[KD.yn_eq] at h
 obtain⟨cs0,csr,y0,yr,rfl,rfl,h1,h2⟩:=h.split
 obtain⟨v,vs,y1,y2,rfl,rfl,h3,h4⟩:=h2.inv
 cases h4
 have hmid:(KD.args x).flatMap KD.yn=((KD.args x).take k).flatMap KD.yn++(KD.yn (KD.args x)[k]++((KD.args x).drop (k+1)).flatMap KD.yn):=by
  conv=>lhs;rw[take_mid (KD.args x) hk]
  rw[List.flatMap_append,List.flatMap_cons]
 obtain⟨b,room,cap,cs2,ys,rfl,rfl,hroom,hcap,hl,h5⟩:=h3.row_inv (by omega)
 ·obtain rfl:=hroom trivial
  rw[hmid] at h5
  obtain⟨csA,csR,yA,yR,rfl,rfl,h6,h7⟩:=h5.split
  obtain⟨csL,csB,yL,yB,rfl,rfl,h8,h9⟩:=h7.split
  have lA:csA.length=k*c.cells:=by rw[h6.len,KD.yns_len,List.length_take];congr 1;omega
  have lL:csL.length=c.cells:=by rw[h8.len,KD.yn_len]
  refine⟨cs0,b,cap,csA,csL,csB,yL,y0++yA++yB,rfl,by rw[h1.len];exact hpl,lA,lL,h8,?_,⟨h6.free,h9.free⟩,?_⟩
  ·rw [List.append_nil,List.append_assoc csA]
   refine List.perm_middle.trans (List.Perm.cons _ ?_)
   rw[←List.append_assoc y0 yA]
   exact perm_mid _ _ _
  ·intro csL' L' yL' s' q1 q2 q3
   have lL':L'.length=c.cells:=by rw[←q2.len];exact q1
   have hrow:YM False (.row c (KD.args x).length (((KD.args x).take k).flatMap KD.yn++(L'++((KD.args x).drop (k+1)).flatMap KD.yn))) (.rs b (KD.args x).length cap) ((b,cap*c.cells,csA++(csL'++csB))::(yA++(yL'++yB))):=by
    refine .row c _ _ b _ cap _ _ (fun h=>h.elim) hcap (by omega) ?_ ((h6.weak (fun h=>h.elim)).app (q2.app (h9.weak (fun h=>h.elim))))
    have e1:=hl
    rw[hmid] at e1
    simp only[List.length_append,lL',KD.yn_len] at e1 ⊢
    exact e1
   have hx':Ers (((KD.args x).take k).flatMap KD.yn++(L'++((KD.args x).drop (k+1)).flatMap KD.yn)) (((KD.args x).take k++s'::(KD.args x).drop (k+1)).flatMap c.view):=by
    rw[List.flatMap_append,List.flatMap_cons]
    exact(KD.ers _).app (q3.app (KD.ers _))
   obtain⟨d0,d1,hd,e0,e1⟩:=(KD.yn_eq x▸KD.er x:Ers (KD.pre x++[.row c (KD.args x).length ((KD.args x).flatMap KD.yn)]) (c.view x)).split
   have hd0:d0=(c.view x).take (c.cells-1):=by
    rw[hd,List.take_append_of_le_length (by rw[e0.len];omega),List.take_of_length_le (by rw[e0.len];omega)]
   refine⟨_,_,(h1.weak (fun h=>h.elim)).app (.cons hrow .nil),?_,?_⟩
   ·rw [RK.at_,KD.view_set,←hd0]
    exact e0.app (.cons (.row c _ _ _ (by simp;omega) hx') .nil)
   ·rw [List.append_nil,List.append_assoc csA]
    refine List.perm_middle.trans (List.Perm.cons _ ?_)
    rw[←List.append_assoc y0 yA]
    exact perm_mid _ _ _
def Foc(KD:RK c)(y:Ys)(rc:List V)(F:c.sem→c.sem)(b off:Nat)(s:c.sem)(csL:List V)(yL:Ys):Prop:=
 ∃cap csA csB yc,csA.length=off∧csL.length=c.cells∧YMs True (KD.yn s) csL yL∧y.Perm ((b,cap*c.cells,csA++csL++csB)::(yL++yc))∧((∀v∈csA,V.free v)∧∀v∈csB,V.free v)∧
  ∀csL' L' yL' s',csL'.length=c.cells→YMs False L' csL' yL'→Ers L' (c.view s')→∃X yX,YMs False X rc yX∧Ers X (c.view (F s'))∧
   yX.Perm ((b,cap*c.cells,csA++csL'++csB)::(yL'++yc))
theorem Foc.next{KD:RK c}{y yL:Ys}{rc csL:List V}{F:c.sem→c.sem}{s:c.sem}{b off:Nat}(h:Foc KD y rc F b off s csL yL){k:Nat}(hk:k<(KD.args s).length):
 ∃cs0 b2 cap csL2 yL2,csL=cs0++[.rs b2 (KD.args s).length cap]∧cs0.length+1=c.cells∧Foc KD y rc (fun x=>F (KD.at_ s k x)) b2 (k*c.cells) (KD.args s)[k] csL2 yL2:=by
 obtain⟨cap,csA,csB,yc,q1,q2,q3,q4,_,q5⟩:=h
 obtain⟨cs0,b2,cap2,csA2,csL2,csB2,yL2,yc2,h1,h2,h3,h4,h5,h6,hfr,h7⟩:=KD.desc q3 hk
 refine⟨cs0,b2,cap2,csL2,yL2,h1,h2,⟨cap2,csA2,csB2,(b,cap*c.cells,csA++csL++csB)::(yc2++yc),h3,h4,h5,?_,hfr,?_⟩⟩
 ·refine q4.trans ?_
  exact((h6.append_right yc).cons _).trans (perm_next _ _ _ _ _)
 ·intro csL' L' yL' s' w1 w2 w3
  obtain⟨X,yX,e1,e2,e4⟩:=h7 csL' L' yL' s' w1 w2 w3
  obtain⟨X2,yX2,e5,e6,e8⟩:=q5 csL X yX (KD.at_ s k s') q2 e1 e2
  refine⟨X2,yX2,e5,e6,e8.trans ?_⟩
  exact((e4.append_right yc).cons _).trans (perm_next _ _ _ _ _)
def RK.walk(KD:RK c):Nat→Dk→(c.sem→c.sem)→c.sem→(c.sem→c.sem)×c.sem×Dk
 |0,d,F,s=>(F,s,d)
 |n+1,d,F,s=>
  if(KD.args s).length=0 then(F,s,d) else
  if 0<(d.next 3).1 then
   if h:((d.next 3).2.next ((KD.args s).length:Int)).1.toNat<(KD.args s).length then
    KD.walk n ((d.next 3).2.next ((KD.args s).length:Int)).2 (fun x=>F (KD.at_ s ((d.next 3).2.next ((KD.args s).length:Int)).1.toNat x)) ((KD.args s)[((d.next 3).2.next ((KD.args s).length:Int)).1.toNat])
   else(F,s,d)
  else(F,s,(d.next 3).2)
theorem Tm.yns_flat:∀l:List Tm,Tm.yns l=l.flatMap Tm.yn
 |[]=>rfl
 |a::l=>by rw[Tm.yns,List.flatMap_cons,Tm.yns_flat l]
def tmK:RK .tm where
 pre t:=[.dat (.i t.kind),.dat (.i t.index),.dat (.i t.ty.kind),.dat (.s .ty t.ty.args)]
 args:=Tm.args
 set t as:= .mk t.kind t.index t.ty as
 sz:=Tm.full
 yn:=Tm.yn
 yn_eq t:=by cases t;unfold Tm.yn;rw[Tm.yns_flat];rfl
 pre_len t:=rfl
 er:=Tm.er
 view_set t xs:=rfl
 sz_set t xs:=by rw[Tm.full_eq,Tm.full_eq t];simp only[Tm.args_mk,Tm.ty_mk];omega
 sz_lt t a h:=by
  have:=lsum_mem Tm.full h
  rw[Tm.full_eq t];omega
def dRow(c:EC)(xs:List c.sem):Yn:= .row c xs.length ((xs.flatMap c.view).map .dat)
theorem flat_isD(c:EC)(xs:List c.sem):(xs.flatMap c.view).all V.isD=true:=by
 rw[List.all_flatMap]
 exact List.all_eq_true.2 fun x _=>view_isD c x
theorem er_dRow(c:EC)(xs:List c.sem):Er (dRow c xs) (.s c xs):= .row c _ _ xs rfl (er_dats _ (flat_isD c xs))
mutual
def Fm.yn:Fm→List Yn| .mk k t ts as=>[.dat (.i k),.dat (.i t.kind),.dat (.s .ty t.args),dRow .tm ts,.row .fm as.length (Fm.yns as)]
def Fm.yns:List Fm→List Yn|[]=>[]|a::l=>a.yn++Fm.yns l
end
theorem Fm.yn_len:∀t:Fm,t.yn.length=5| .mk _ _ _ _=>rfl
theorem Fm.yns_len:∀l:List Fm,(Fm.yns l).length=l.length*5
 |[]=>rfl
 |a::l=>by rw[Fm.yns,List.length_append,Fm.yn_len,Fm.yns_len l,List.length_cons];omega
mutual
theorem Fm.er:∀t:Fm,Ers t.yn t.view
 | .mk k t ts as=> .cons (.dat _ rfl) (.cons (.dat _ rfl) (.cons (.dat _ rfl) (.cons (er_dRow .tm ts) (.cons (.row .fm _ _ as rfl (Fm.ers as)) .nil))))
theorem Fm.ers:∀l:List Fm,Ers (Fm.yns l) (l.flatMap (EC.view .fm))
 |[]=> .nil
 |a::l=>by rw[Fm.yns,List.flatMap_cons];exact(Fm.er a).app (Fm.ers l)
end
theorem Fm.yns_flat:∀l:List Fm,Fm.yns l=l.flatMap Fm.yn
 |[]=>rfl
 |a::l=>by rw[Fm.yns,List.flatMap_cons,Fm.yns_flat l]
def fmK:RK .fm where
 pre f:=[.dat (.i f.kind),.dat (.i f.ty.kind),.dat (.s .ty f.ty.args),dRow .tm f.terms]
 args:=Fm.args
 set f as:= .mk f.kind f.ty f.terms as
 sz:=Fm.full
 yn:=Fm.yn
 yn_eq f:=by cases f;unfold Fm.yn;rw[Fm.yns_flat];rfl
 pre_len f:=rfl
 er:=Fm.er
 view_set f xs:=rfl
 sz_set f xs:=by rw[Fm.full_eq,Fm.full_eq f];simp only[Fm.args_mk,Fm.ty_mk,Fm.terms_mk];omega
 sz_lt f a h:=by
  have:=lsum_mem Fm.full h
  rw[Fm.full_eq f];omega
theorem YM.is_raw{s:Prop}{c:EC}{n:Nat}{cells:List Yn}{v:V}{y:Ys}(h:YM s (.row c n cells) v y):∃u,v= .raw u:=by
 cases h with
 |nil=>exact⟨_,rfl⟩
 |row=>exact⟨_,rfl⟩
theorem YMs.fm{s:Prop}{f:Fm}{vs:List V}{y:Ys}(h:YMs s f.yn vs y):∃tv sv y1 y2,vs=[.i f.kind,.i f.ty.kind,.s .ty f.ty.args,.raw tv,.raw sv]∧y=y1++y2∧YM s (dRow .tm f.terms) (.raw tv) y1∧YM s (.row .fm f.args.length (Fm.yns f.args)) (.raw sv) y2:=by
 obtain⟨k,t,ts,as⟩:=f
 have h:YMs s [.dat (.i k),.dat (.i t.kind),.dat (.s .ty t.args),dRow .tm ts,.row .fm as.length (Fm.yns as)] vs y:=by unfold Fm.yn at h;exact h
 show ∃tv sv y1 y2,vs=[.i k,.i t.kind,.s .ty t.args,.raw tv,.raw sv]∧y=y1++y2∧YM s (dRow .tm ts) (.raw tv) y1∧YM s (.row .fm as.length (Fm.yns as)) (.raw sv) y2
 generalize as.length=n at h ⊢
 generalize Fm.yns as=cells at h ⊢
 obtain⟨_,_,_,_,rfl,rfl,k1,h1⟩:=h.inv;cases k1
 obtain⟨_,_,_,_,rfl,rfl,k2,h2⟩:=h1.inv;cases k2
 obtain⟨_,_,_,_,rfl,rfl,k3,h3⟩:=h2.inv;cases k3
 obtain⟨v4,_,y4,_,rfl,rfl,k4,h4⟩:=h3.inv
 obtain⟨v5,_,y5,_,rfl,rfl,k5,h5⟩:=h4.inv;cases h5
 obtain⟨tv,rfl⟩:=YM.is_raw k4
 obtain⟨sv,rfl⟩:=k5.is_raw
 exact⟨tv,sv,y4,y5,rfl,by simp,k4,k5⟩
theorem mtchF_of{f g:Fm}(h1:f.err=0)(h2:g.err=0)(h:mtF f g=0):mtchF f g=0:=by
 unfold mtchF
 rw[if_neg (by simp[h1]),if_neg (by simp[h2])];exact h
def varL:List Tm:=(List.range 9).map fun i:Nat=>vT (i:Int)
def leafL:List Tm:=varL++[numT 0,numT 1,numT 2,nT 7 [],nT 13 []]
def baseL:List Ty:=[natT,listT,unitT]
def okS(u:Tm):Bool:=Nat.ble u.size 64&&Nat.ble (cnt 0 (u.vars 0)) 4&&Nat.ble (cnt 1 (u.vars 0)) 4&&Nat.ble (cnt 2 (u.vars 0)) 4
def okR(x:Tm):Bool:=okS x&&okS (stpT x)&&okS (stpT (stpT x))&&okS (stpT (stpT (stpT x)))
theorem okR_leaf:(leafL.all okR)=true:=by decide+kernel
theorem okR_sub:(leafL.all fun a=>leafL.all fun b=>okR (apT (apT subT a) b))=true:=by decide+kernel
theorem okR_plus:(leafL.all fun a=>leafL.all fun b=>okR (apT (apT plusT a) b))=true:=by decide+kernel
theorem okR_app:(baseL.all fun s=>leafL.all fun a=>leafL.all fun b=>okR (apT (lmT s a) b))=true:=by decide+kernel
theorem okR_fst:(leafL.all fun a=>leafL.all fun b=>okR (nT 11 [nT 10 [a,b]]))=true:=by decide+kernel
theorem okR_snd:(leafL.all fun a=>leafL.all fun b=>okR (nT 12 [nT 10 [a,b]]))=true:=by decide+kernel
theorem okR_rec:(leafL.all fun a=>leafL.all fun b=>[0,1,2].all fun m=>okR (hT 6 natT [b,lmT natT (lmT natT a),numT m]))=true:=by decide+kernel
theorem okR_fold:(leafL.all fun a=>leafL.all fun b=>(varL++[nT 7 []]).all fun c=>okR (hT 9 natT [b,lmT natT (lmT listT (lmT natT a)),c]))=true:=by decide+kernel
theorem okR_ctx:(varL.all fun v=>leafL.all fun a=>okR (apT v a))=true:=by decide+kernel
theorem okR_succ:(leafL.all fun a=>okR (sT a))=true:=by decide+kernel
theorem mem_varL{i:Nat}(h:i<9):vT i∈varL:=List.mem_map.2 ⟨i,List.mem_range.2 h,rfl⟩
theorem two_ne(s t:Ty):(twoT s t).size≠1:=by have:=s.size_pos;have:=t.size_pos;simp[twoT,Ty.size,Ty.sizes];omega
theorem fun_ne(s t:Ty):(funT s t).size≠1:=by have:=s.size_pos;have:=t.size_pos;simp[funT,Ty.size,Ty.sizes];omega
theorem Mk.leaf{g:List Ty}{s:Ty}{x:Tm}(h:Mk 2 g s x)(hg:g.length≤9)(h1:s.size=1):x∈leafL:=by
 cases h with
 |var _ _ _ i hi _=>exact List.mem_append_left _ (mem_varL (by omega))
 |num _ _ m hm=>
  refine List.mem_append_right _ ?_
  match m,hm with
  |0,_=>simp
  |1,_=>simp
  |2,_=>simp
 |nil=>exact List.mem_append_right _ (by simp)
 |unit=>exact List.mem_append_right _ (by simp)
 |pair _ _ s t a b _ _ _ _=>exact absurd h1 (two_ne s t)
 |lam _ _ s t a _ _ _=>exact absurd h1 (fun_ne s t)
 |app _ _ _ s a b hn=>omega
 |fst _ _ _ s a b hn=>omega
 |snd _ _ _ s a b hn=>omega
 |recu _ _ _ a b m hn=>omega
 |fold _ _ _ a b c hn=>omega
 |ctx _ _ _ s a hn=>omega
 |succ _ _ a hn=>omega
 |plus _ _ a b hn=>omega
 |sub _ _ a b hn=>omega
 |cons _ _ a b hn=>omega
theorem Mk.leafl{g:List Ty}{x:Tm}(h:Mk 2 g listT x)(hg:g.length≤9):x∈varL++[nT 7 []]:=by
 cases h with
 |var _ _ _ i hi _=>exact List.mem_append_left _ (mem_varL (by omega))
 |nil=>exact List.mem_append_right _ (by simp)
 |app _ _ _ s a b hn=>omega
 |fst _ _ _ s a b hn=>omega
 |snd _ _ _ s a b hn=>omega
 |recu _ _ _ a b m hn=>omega
 |fold _ _ _ a b c hn=>omega
 |ctx _ _ _ s a hn=>omega
 |cons _ _ a b hn=>omega
theorem base_mem{s:Ty}(hs:s.shape=true)(h1:s.size=1):s∈baseL:=by
 obtain⟨k,xs⟩:=s
 have h2:xs=[]:=by
  cases xs with
  |nil=>rfl
  |cons x l=>have:=x.size_pos;simp[Ty.size,Ty.sizes] at h1;omega
 subst h2
 simp only[Ty.shape,Ty.shapes,Bool.and_true,List.length_nil] at hs
 have:k=1∨k=2∨k=5:=by
  by_cases h:k=1∨k=2∨k=5
  ·exact h
  ·simp only[arT,if_neg h] at hs
   split at hs<;>simp at hs
   rename_i n h3
   split at h3<;>cases h3
   simp at hs
 rcases this with rfl|rfl|rfl
 ·exact List.mem_cons_self
 ·exact List.mem_cons_of_mem _ List.mem_cons_self
 ·exact List.mem_cons_of_mem _ (List.mem_cons_of_mem _ List.mem_cons_self)
theorem allB_at{α:Type}{p:α→Bool}{l:List α}(h:l.all p=true){x:α}(hx:x∈l):p x=true:=List.all_eq_true.1 h x hx
theorem Mk.okR{g:List Ty}{x:Tm}(h:Mk 3 g natT x)(hg:g.length≤6):okR x=true:=by
 cases h with
 |var _ _ _ i hi _=>exact allB_at okR_leaf (List.mem_append_left _ (mem_varL (by omega)))
 |num _ _ m hm=>
  refine allB_at okR_leaf (List.mem_append_right _ ?_)
  match m,hm with
  |0,_=>simp
  |1,_=>simp
  |2,_=>simp
 |app _ _ _ s a b hn hs h1 ha hb=>exact allB_at (allB_at (allB_at okR_app (base_mem hs h1)) (ha.leaf (by simp;omega) rfl)) (hb.leaf (by omega) h1)
 |fst _ _ _ s a b hn hs h1 ha hb=>exact allB_at (allB_at okR_fst (ha.leaf (by omega) rfl)) (hb.leaf (by omega) h1)
 |snd _ _ _ s a b hn hs h1 ha hb=>exact allB_at (allB_at okR_snd (ha.leaf (by omega) h1)) (hb.leaf (by omega) rfl)
 |recu _ _ _ a b m hn hm ha hb=>
  refine allB_at (allB_at (allB_at okR_rec (ha.leaf (by simp;omega) rfl)) (hb.leaf (by omega) rfl)) ?_
  match m,hm with
  |0,_=>simp
  |1,_=>simp
  |2,_=>simp
 |fold _ _ _ a b c hn ha hb hc=>exact allB_at (allB_at (allB_at okR_fold (ha.leaf (by simp;omega) rfl)) (hb.leaf (by omega) rfl)) (hc.leafl (by omega))
 |ctx _ _ _ s a hn i hi h h1 ha=>exact allB_at (allB_at okR_ctx (mem_varL (by omega))) (ha.leaf (by omega) h1)
 |succ _ _ a hn ha=>exact allB_at okR_succ (ha.leaf (by omega) rfl)
 |plus _ _ a b hn ha hb=>exact allB_at (allB_at okR_plus (ha.leaf (by omega) rfl)) (hb.leaf (by omega) rfl)
 |sub _ _ a b hn ha hb=>exact allB_at (allB_at okR_sub (ha.leaf (by omega) rfl)) (hb.leaf (by omega) rfl)
theorem okR_iter{x:Tm}(h:okR x=true):∀k,k≤3→okS (iterT k x)=true:=by
 simp only[Go.Ab.okR,Bool.and_eq_true] at h
 obtain⟨⟨⟨h0,h1⟩,h2⟩,h3⟩:=h
 intro k hk
 match k,hk with
 |0,_=>exact h0
 |1,_=>exact h1
 |2,_=>exact h2
 |3,_=>exact h3
theorem okS_bd{u:Tm}(h:okS u=true):u.size≤64∧∀v:Int,v=0∨v=1∨v=2→cnt v (u.vars 0)≤4:=by
 simp only[okS,Bool.and_eq_true] at h
 obtain⟨⟨⟨h0,h1⟩,h2⟩,h3⟩:=h
 refine⟨Nat.le_of_ble_eq_true h0,?_⟩
 rintro v (rfl|rfl|rfl)
 ·exact Nat.le_of_ble_eq_true h1
 ·exact Nat.le_of_ble_eq_true h2
 ·exact Nat.le_of_ble_eq_true h3
theorem Mk.sz1{g:List Ty}{t:Ty}{x:Tm}(h:Mk 1 g t x)(ht:t.size=1):x.size≤3:=by
 cases h with
 |var _ _ _ i _ _=>exact(by have:(vT i).size=1:=rfl;omega)
 |num _ _ m hm=>
  match m,hm with
  |0,_=>decide
  |1,_=>decide
  |2,_=>decide
 |nil=>decide
 |unit=>decide
 |pair _ _ s t a b _ _ _ _=>exact absurd ht (two_ne s t)
 |lam _ _ s t a _ _ _=>exact absurd ht (fun_ne s t)
 |app _ _ _ s a b hn=>omega
 |fst _ _ _ s a b hn=>omega
 |snd _ _ _ s a b hn=>omega
 |recu _ _ _ a b m hn=>omega
 |fold _ _ _ a b c hn=>omega
 |ctx _ _ _ s a hn=>omega
 |succ _ _ a hn=>omega
 |plus _ _ a b hn=>omega
 |sub _ _ a b hn=>omega
 |cons _ _ a b hn=>omega
theorem sz_apT(f x:Tm):(apT f x).size=1+f.size+x.size:=by simp[apT,Tm.size,Tm.sizes];omega
theorem sz_num(m:Nat):(numT m).size=m+1:=by
 induction m with
 |zero=>rfl
 |succ m ih=>simp only[numT,Tm.size,Tm.sizes,ih];omega
theorem Mk.szn{n A:Nat}(ih:∀(g:List Ty) (t:Ty) (x:Tm),Mk n g t x→x.size≤A)(hA:3≤A){g:List Ty}{t:Ty}{x:Tm}(h:Mk (n+1) g t x):x.size≤max (18+2*A) (4+3*A):=by
 have hp:plusT.size≤16:=by decide
 have hs:subT.size≤16:=by decide
 cases h with
 |var _ _ _ i hi _=>have:(vT i).size=1:=rfl;omega
 |num _ _ m hm=>rw[sz_num];omega
 |nil=>have:(nT 7 []).size=1:=rfl;omega
 |unit=>have:(nT 13 []).size=1:=rfl;omega
 |pair _ _ s t a b _ _ ha hb=>have:=ih _ _ _ ha;have:=ih _ _ _ hb;simp[nT,Tm.size,Tm.sizes];omega
 |lam _ _ s t a _ _ ha=>have:=ih _ _ _ ha;simp[lmT,Tm.size,Tm.sizes];omega
 |app _ _ _ s a b hn _ _ ha hb=>have:=ih _ _ _ ha;have:=ih _ _ _ hb;rw[sz_apT];simp[lmT,Tm.size,Tm.sizes];omega
 |fst _ _ _ s a b hn _ _ ha hb=>have:=ih _ _ _ ha;have:=ih _ _ _ hb;simp[nT,Tm.size,Tm.sizes];omega
 |snd _ _ _ s a b hn _ _ ha hb=>have:=ih _ _ _ ha;have:=ih _ _ _ hb;simp[nT,Tm.size,Tm.sizes];omega
 |recu _ _ _ a b m hn hm ha hb=>have:=ih _ _ _ ha;have:=ih _ _ _ hb;have:=sz_num m;simp[hT,lmT,Tm.size,Tm.sizes];omega
 |fold _ _ _ a b c hn ha hb hc=>have:=ih _ _ _ ha;have:=ih _ _ _ hb;have:=ih _ _ _ hc;simp[hT,lmT,Tm.size,Tm.sizes];omega
 |ctx _ _ _ s a hn i hi h h1 ha=>have:=ih _ _ _ ha;have:(vT i).size=1:=rfl;rw[sz_apT];omega
 |succ _ _ a hn ha=>have:=ih _ _ _ ha;simp[sT,Tm.size,Tm.sizes];omega
 |plus _ _ a b hn ha hb=>have:=ih _ _ _ ha;have:=ih _ _ _ hb;rw[sz_apT,sz_apT];omega
 |sub _ _ a b hn ha hb=>have:=ih _ _ _ ha;have:=ih _ _ _ hb;rw[sz_apT,sz_apT];omega
 |cons _ _ a b hn ha hb=>have:=ih _ _ _ ha;have:=ih _ _ _ hb;simp[nT,Tm.size,Tm.sizes];omega
theorem Mk.sz2{g:List Ty}{t:Ty}{x:Tm}(h:Mk 2 g t x):x.size≤7:=by
 cases h with
 |var _ _ _ i hi _=>have:(vT i).size=1:=rfl;omega
 |num _ _ m hm=>rw[sz_num];omega
 |nil=>decide
 |unit=>decide
 |pair _ _ s t a b h1 h2 ha hb=>have:=ha.sz1 h1;have:=hb.sz1 h2;simp[nT,Tm.size,Tm.sizes];omega
 |lam _ _ s t a h1 h2 ha=>have:=ha.sz1 h2;simp[lmT,Tm.size,Tm.sizes];omega
 |app _ _ _ s a b hn=>omega
 |fst _ _ _ s a b hn=>omega
 |snd _ _ _ s a b hn=>omega
 |recu _ _ _ a b m hn=>omega
 |fold _ _ _ a b c hn=>omega
 |ctx _ _ _ s a hn=>omega
 |succ _ _ a hn=>omega
 |plus _ _ a b hn=>omega
 |sub _ _ a b hn=>omega
 |cons _ _ a b hn=>omega
theorem Mk.sz3{g:List Ty}{t:Ty}{x:Tm}(h:Mk 3 g t x):x.size≤32:=by
 have:=Mk.szn (A:=7) (fun g t x h=>h.sz2) (by omega) h;omega
theorem Mk.sz4{g:List Ty}{t:Ty}{x:Tm}(h:Mk 4 g t x):x.size≤100:=by
 have:=Mk.szn (A:=32) (fun g t x h=>h.sz3) (by omega) h;omega
abbrev TX:=List Ty→Int→Tm→Tm→Prop
def LR(X:Tm→Tm→Prop):List Tm→List Tm→Prop
 |[],[]=>True
 |t::l,u::m=>X t u∧LR X l m
 |_,_=>False
mutual
def FR(X:TX)(g:List Ty)(b:Int):Fm→Fm→Prop
 | .mk k h ts as,f=>f.kind=k∧f.ty=h∧LR (X g b) ts f.terms∧FRs X (if quantK k=true then g++[h] else g) (upF k b) as f.args
def FRs(X:TX)(g:List Ty)(b:Int):List Fm→List Fm→Prop
 |[],l=>l=[]
 |x::as,l=>match l with|[]=>False|y::m=>FR X g b x y∧FRs X g b as m
end
theorem FR_iff(X:TX)(g:List Ty)(b:Int)(f h:Fm):FR X g b f h↔h.kind=f.kind∧h.ty=f.ty∧LR (X g b) f.terms h.terms∧FRs X (ctxF g f) (upF f.kind b) f.args h.args:=by
 cases f;simp only[FR,ctxF];rfl
theorem LR.mono{X Y:Tm→Tm→Prop}:∀{l m:List Tm},LR X l m→(∀t∈l,∀u,X t u→Y t u)→LR Y l m
 |[],[],_,_=>trivial
 |t::l,u::m,h,hy=>⟨hy t List.mem_cons_self u h.1,h.2.mono fun t ht=>hy t (List.mem_cons_of_mem _ ht)⟩
theorem LR.len{X:Tm→Tm→Prop}:∀{l m:List Tm},LR X l m→m.length=l.length
 |[],[],_=>rfl
 |t::l,u::m,h=>by simp only[List.length_cons,h.2.len]
theorem LR.all{X:Tm→Tm→Prop}{P:Tm→Prop}:∀{l m:List Tm},LR X l m→(∀t∈l,∀u,X t u→P u)→∀u∈m,P u
 |[],[],_,_,u,hu=>by cases hu
 |t::l,v::m,h,hp,u,hu=>by
  rcases List.mem_cons.1 hu with rfl|hu
  ·exact hp t List.mem_cons_self _ h.1
  ·exact h.2.all (fun t ht=>hp t (List.mem_cons_of_mem _ ht)) u hu
theorem FRs.len{X:TX}{g:List Ty}{b:Int}:∀{l m:List Fm},FRs X g b l m→m.length=l.length
 |[],m,h=>by simp only[FRs] at h;subst h;rfl
 |x::l,[],h=>by simp only[FRs] at h
 |x::l,y::m,h=>by simp only[FRs] at h;simp only[List.length_cons,h.2.len]
theorem FR.ind{X:TX}{P:List Ty→Int→Fm→Fm→Prop}
 (hP:∀g b f h,h.kind=f.kind→h.ty=f.ty→LR (X g b) f.terms h.terms→f.args.length=h.args.length→(∀i (h1:i<f.args.length) (h2:i<h.args.length),P (ctxF g f) (upF f.kind b) f.args[i] h.args[i])→P g b f h) (f:Fm):
 ∀g b h,FR X g b f h→P g b f h:=by
 induction f using Fm.ind with
 |h f ih=>
  intro g b h hr
  rw[FR_iff] at hr
  obtain⟨h1,h2,h3,h4⟩:=hr
  have key:∀(l m:List Fm),(∀x∈l,∀g b h,FR X g b x h→P g b x h)→FRs X (ctxF g f) (upF f.kind b) l m→∀i (h1:i<l.length) (h2:i<m.length),P (ctxF g f) (upF f.kind b) l[i] m[i]:=by
   intro l
   induction l with
   |nil=>intro m _ _ i h1;cases h1
   |cons x l ih2=>
    intro m hx hm i h1 h2
    cases m with
    |nil=>cases h2
    |cons y m=>
     simp only[FRs] at hm
     cases i with
     |zero=>exact hx x List.mem_cons_self _ _ _ hm.1
     |succ i=>exact ih2 m (fun z hz=>hx z (List.mem_cons_of_mem _ hz)) hm.2 i (by simpa using h1) (by simpa using h2)
  exact hP g b f h h1 h2 h3 h4.len.symm (key f.args h.args ih h4)
theorem FRs_of{X:TX}{g:List Ty}{b:Int}:∀{l m:List Fm},l.length=m.length→(∀i (h1:i<l.length) (h2:i<m.length),FR X g b l[i] m[i])→FRs X g b l m
 |[],[],_,_=>by simp only[FRs]
 |[],_::_,h,_=>by cases h
 |_::_,[],h,_=>by cases h
 |x::l,y::m,h,hr=>by
  simp only[FRs]
  exact⟨hr 0 (by simp) (by simp),FRs_of (by simpa using h) fun i h1 h2=>by have:=hr (i+1) (by simpa using h1) (by simpa using h2);simpa using this⟩
theorem LR_mt{X:Tm→Tm→Prop}{S:Int→Prop}(h0:S 0):∀{l m:List Tm},LR X l m→(∀t u,X t u→S (mtchR t u 1000))→S (mtTs l m)
 |[],[],_,_=>h0
 |t::l,u::m,h,hx=>by
  simp only[mtTs]
  split
  ·exact hx t u h.1
  ·exact LR_mt h0 h.2 hx
theorem LR_mt'{X:Tm→Tm→Prop}{S:Int→Prop}(h0:S 0):∀{l m:List Tm},LR X l m→(∀t u,X t u→S (mtchR u t 1000))→S (mtTs m l)
 |[],[],_,_=>h0
 |t::l,u::m,h,hx=>by
  simp only[mtTs]
  split
  ·exact hx t u h.1
  ·exact LR_mt' h0 h.2 hx
theorem mtFs_S{S:Int→Prop}(h0:S 0):∀(l m:List Fm),(∀i (h1:i<l.length) (h2:i<m.length),S (mtF l[i] m[i]))→S (mtFs l m)
 |[],m,_=>by cases m<;>(simp only[mtFs];exact h0)
 |_::_,[],_=>by simp only[mtFs];exact h0
 |x::l,y::m,h=>by
  simp only[mtFs]
  split
  ·exact h 0 (by simp) (by simp)
  ·exact mtFs_S h0 l m fun i h1 h2=>by have:=h (i+1) (by simpa using h1) (by simpa using h2);simpa using this
theorem FR.mt{X:TX}{S:Int→Prop}(h0:S 0)(hx:∀g b t u,X g b t u→S (mtchR t u 1000)){g:List Ty}{b:Int}{f h:Fm}(hr:FR X g b f h):S (mtF f h):=
 FR.ind (P:=fun _ _ f h=>S (mtF f h)) (fun g b f h h1 h2 h3 h4 h5=>by
  rw[mtF_eq,if_pos ⟨h1.symm,h2.symm⟩]
  split
  ·exact LR_mt h0 h3 (hx g b)
  ·exact mtFs_S h0 _ _ h5) f g b h hr
theorem FR.mt'{X:TX}{S:Int→Prop}(h0:S 0)(hx:∀g b t u,X g b t u→S (mtchR u t 1000)){g:List Ty}{b:Int}{f h:Fm}(hr:FR X g b f h):S (mtF h f):=
 FR.ind (P:=fun _ _ f h=>S (mtF h f)) (fun g b f h h1 h2 h3 h4 h5=>by
  rw[mtF_eq,if_pos ⟨h1,h2⟩]
  split
  ·exact LR_mt' h0 h3 (hx g b)
  ·exact mtFs_S h0 _ _ fun i a c=>h5 i c a) f g b h hr
theorem FR.shape{X:TX}(hx:∀g b t u,X g b t u→u.shape=true){g:List Ty}{b:Int}{f h:Fm}(hr:FR X g b f h)(hf:f.shape=true):h.shape=true:=
 FR.ind (P:=fun _ _ f h=>f.shape=true→h.shape=true) (fun g b f h h1 h2 h3 h4 h5 hs=>by
  rw[Fm.shape_eq,Bool.and_eq_true,Bool.and_eq_true] at hs ⊢
  obtain⟨⟨s1,s2⟩,s3⟩:=hs
  refine⟨⟨?_,?_⟩,?_⟩
  ·simp only[Fm.head] at s1 ⊢
   rw[h1,h2,h3.len,←h4];exact s1
  ·exact List.all_eq_true.2 (h3.all fun t _ u h=>hx g b t u h)
  ·refine List.all_eq_true.2 fun y hy=> ?_
   obtain⟨i,hi,rfl⟩:=List.mem_iff_getElem.1 hy
   have hi2:i<f.args.length:=by omega
   exact h5 i hi2 hi (List.all_eq_true.1 s3 _ (List.getElem_mem hi2))) f g b h hr hf
theorem FR.okT{X:TX}(hx:∀g b t u,X g b t u→u.inf g=(natT,0)){g:List Ty}{b:Int}{f h:Fm}(hr:FR X g b f h):h.okT g:=
 FR.ind (P:=fun g _ f h=>h.okT g) (fun g b f h h1 h2 h3 h4 h5=>by
  rw[Fm.okT_iff]
  refine⟨h3.all fun t _ u h=>hx g b t u h,fun y hy=> ?_⟩
  obtain⟨i,hi,rfl⟩:=List.mem_iff_getElem.1 hy
  have:=h5 i (by omega) hi
  have e:ctxF g h=ctxF g f:=by simp only[ctxF,h1,h2]
  rw[e];exact this) f g b h hr
mutual
def Fm.ns:Fm→Nat| .mk _ _ _ as=>1+Fm.nss as
def Fm.nss:List Fm→Nat|[]=>0|f::l=>f.ns+Fm.nss l
end
mutual
def Fm.nt:Fm→Nat| .mk _ _ ts as=>ts.length+Fm.nts as
def Fm.nts:List Fm→Nat|[]=>0|f::l=>f.nt+Fm.nts l
end
theorem Fm.ns_eq(f:Fm):f.ns=1+(f.args.map Fm.ns).sum:=by
 have:∀l:List Fm,Fm.nss l=(l.map Fm.ns).sum:=fun l=>by induction l with|nil=>rfl|cons x l ih=>simp only[Fm.nss,ih,List.map_cons,List.sum_cons]
 cases f;simp only[Fm.ns,this,Fm.args_mk]
theorem Fm.nt_eq(f:Fm):f.nt=f.terms.length+(f.args.map Fm.nt).sum:=by
 have:∀l:List Fm,Fm.nts l=(l.map Fm.nt).sum:=fun l=>by induction l with|nil=>rfl|cons x l ih=>simp only[Fm.nts,ih,List.map_cons,List.sum_cons]
 cases f;simp only[Fm.nt,this,Fm.args_mk,Fm.terms_mk]
theorem sum_le_at{α β:Type}{p:α→Nat}{q:β→Nat}:∀{l:List α} {m:List β},l.length=m.length→(∀i (h1:i<l.length) (h2:i<m.length),p l[i]≤q m[i])→(l.map p).sum≤(m.map q).sum
 |[],[],_,_=>Nat.le_refl _
 |[],_::_,h,_=>by cases h
 |_::_,[],h,_=>by cases h
 |x::l,y::m,h,hi=>by
  have h1:=hi 0 (by simp) (by simp)
  have h2:=sum_le_at (p:=p) (q:=q) (l:=l) (m:=m) (by simpa using h) fun i h1 h2=>by have:=hi (i+1) (by simpa using h1) (by simpa using h2);simpa using this
  simp only[List.map_cons,List.sum_cons,List.getElem_cons_zero] at h1 ⊢
  omega
theorem sum_bdA{α:Type}{p:α→Nat}{A:Nat}:∀(l:List α),(∀x∈l,p x≤A)→(l.map p).sum≤A*l.length
 |[],_=>by simp
 |x::l,h=>by
  have h1:=sum_bdA l fun y hy=>h y (List.mem_cons_of_mem _ hy)
  have h2:=h x List.mem_cons_self
  simp only[List.map_cons,List.sum_cons,List.length_cons,Nat.mul_add,Nat.mul_one]
  omega
theorem sum_lin{α:Type}{p q:α→Nat}{A:Nat}:∀(l:List α),(l.map fun x=>p x+A*q x).sum=(l.map p).sum+A*(l.map q).sum
 |[]=>by simp
 |x::l=>by simp only[List.map_cons,List.sum_cons,sum_lin l,Nat.mul_add];omega
theorem FR.size{X:TX}{A:Nat}(hx:∀g b t u,X g b t u→u.size≤A){g:List Ty}{b:Int}{f h:Fm}(hr:FR X g b f h):h.size≤f.ns+A*f.nt:=
 FR.ind (P:=fun _ _ f h=>h.size≤f.ns+A*f.nt) (fun g b f h h1 h2 h3 h4 h5=>by
  rw[Fm.size_eq,Fm.ns_eq,Fm.nt_eq,Nat.mul_add]
  have e1:=sum_bdA h.terms (h3.all fun t _ u h=>hx g b t u h)
  have e2:=sum_le_at (p:=Fm.size) (q:=fun x:Fm=>x.ns+A*x.nt) h4.symm (fun i a c=>h5 i c a)
  rw[sum_lin] at e2
  rw[h3.len] at e1
  omega) f g b h hr
end Go.Ab
