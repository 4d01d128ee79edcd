/- A part of the proofs of this seat's statements: D1, D2, D3, D4, D5, D6, D7, D8, D9, D10, D11, D12, D13, D14, D16, D17, D19, D20, D22, D23, D24, D25, D26, D27, D28, D29, D30, D31, D32, D44, D45, D46, D47. It has no conditions of its own. -/
import Derived.Test.YtdkjbjikpofgbaaGreatDoorA2
namespace Go.Ab
open Go
set_option linter.all false
@[simp] theorem Ya0(E:Env)(T:Nat)(k:IntKind)(n:Int):za E T (.int k n)= .int k n:=rfl
@[simp] theorem Yav(E:Env)(T:Nat)(b:Bool):za E T (.bool b)= .bool b:=rfl
@[simp] theorem Yaz(E:Env)(T:Nat)(s:ByteArray):za E T (.string s)= .str s:=rfl
theorem yk{α:Type}(f:α→Nat)(l:List α):∀m (h:m<l.length),((l.take (m+1)).map f).sum=((l.take m).map f).sum+f l[m]:=by
 induction l with
 |nil=>intro m h;simp at h
 |cons t l ih=>
  intro m h
  cases m with
  |zero=>simp
  |succ m=>simp only[List.length_cons] at h;simp only[List.take_succ_cons,List.map_cons,List.sum_cons,List.getElem_cons_succ,ih m (by omega)];omega
theorem zb{α:Type}(f:α→Nat){l:List α}{t:α}(h:t∈l):f t≤(l.map f).sum:=by
 induction l with
 |nil=>cases h
 |cons x l ih=>rcases List.mem_cons.1 h with rfl|h;· simp
               ·have:=ih h;simp only[List.map_cons,List.sum_cons];omega
theorem zk{α:Type}(f:α→Nat)(l:List α)(m:Nat):((l.take m).map f).sum≤(l.map f).sum:=by
 induction l generalizing m with
 |nil=>simp
 |cons t l ih=>cases m with
  |zero=>simp
  |succ m=>have:=ih m;simp only[List.take_succ_cons,List.map_cons,List.sum_cons];omega
theorem zc{α:Type}(f:α→Nat)(hf:∀x,1≤f x):∀l:List α,l.length≤(l.map f).sum
 |[]=>Nat.le_refl _
 |x::l=>by have:=zc f hf l;have:=hf x;simp only[List.length_cons,List.map_cons,List.sum_cons];omega
theorem Zac{α:Type}(p:α→Bool)(l:List α)(h:∀j (hj:j<l.length),p l[j]=true):l.all p=true:=by
 rw[List.all_eq_true]
 intro x hx
 obtain⟨j,hj,rfl⟩:=List.mem_iff_getElem.1 hx
 exact h j hj
theorem wo{α:Type}(p:α→Bool){l:List α}{j:Nat}(hj:j<l.length)(h:p l[j]=false):l.all p=false:=by
 cases hb:l.all p with
 |false=>rfl
 |true=>rw[List.all_eq_true.1 hb _ (List.getElem_mem hj)] at h;cases h
theorem yb{α:Type}{p:α→Prop}{l:List α}{m:Nat}(hm:m<l.length)(h:∀j (hj:j<l.length),j<m→p l[j])(h1:p l[m]):∀j (hj:j<l.length),j<m+1→p l[j]:=by
 intro j hj hlt
 by_cases hjm:j=m
 ·subst hjm;exact h1
 ·exact h j hj (by omega)
def arT(k:Int):Option Nat:=if k=1∨k=2∨k=5 then some 0 else if k=3∨k=4 then some 2 else none
mutual
def Ty.shape:Ty→Bool
 | .mk k xs=>(match arT k with|some n=>xs.length==n|none=>false)&&Ty.shapes xs
def Ty.shapes:List Ty→Bool
 |[]=>true
 |t::l=>t.shape&&Ty.shapes l
end
mutual
def Ty.size:Ty→Nat
 | .mk _ xs=>1+Ty.sizes xs
def Ty.sizes:List Ty→Nat
 |[]=>0
 |t::l=>t.size+Ty.sizes l
end
theorem Ty.sizes_eq:∀l:List Ty,Ty.sizes l=(l.map Ty.size).sum
 |[]=>rfl
 |t::l=>by simp only[Ty.sizes,Ty.sizes_eq l,List.map_cons,List.sum_cons]
theorem Ty.shapes_eq:∀l:List Ty,Ty.shapes l=l.all Ty.shape
 |[]=>rfl
 |t::l=>by simp only[Ty.shapes,Ty.shapes_eq l,List.all_cons]
theorem Ty.size_eq(t:Ty):t.size=1+(t.args.map Ty.size).sum:=by cases t;simp only[Ty.size,Ty.sizes_eq,Ty.args_mk]
theorem Ty.shape_eq(t:Ty):t.shape=((match arT t.kind with|some n=>t.args.length==n|none=>false)&&t.args.all Ty.shape):=by cases t;simp only[Ty.shape,Ty.shapes_eq,Ty.args_mk,Ty.kind_mk]
theorem Ty.size_pos(t:Ty):1≤t.size:=by rw[Ty.size_eq];omega
def Ty.nodes(t:Ty):Nat:=if t.shape then t.size else 0
theorem Ty.nodes_le(t:Ty):t.nodes≤t.size:=by simp only[Ty.nodes];split<;>omega
theorem Ty.ind{P:Ty→Prop}(h:∀t,(∀x∈t.args,P x)→P t)(t:Ty):P t:=by
 have:∀b (t:Ty),t.size≤b→P t:=by
  intro b
  induction b with
  |zero=>intro t ht;have:=t.size_pos;omega
  |succ b ih=>
   intro t ht
   refine h t fun x hx=>ih x ?_
   have:=zb Ty.size hx
   have:=t.size_eq
   omega
 exact this _ t (Nat.le_refl _)
def arK(k:Int):Option Nat:=
 if k=1∨k=4∨k=7∨k=13 then some 0 else if k=2∨k=5∨k=11∨k=12 then some 1 else if k=3∨k=8∨k=10 then some 2 else if k=6∨k=9 then some 3 else none
def xu(k:Int):Bool:=k==2||k==6||k==9
def Ty.isNo(t:Ty):Bool:=t.kind==0&&t.args.length==0
def Ty.ok(t:Ty):Bool:=t.shape&&decide (t.size≤64)
def Tm.head(t:Tm):Bool:=(match arK t.kind with|some n=>t.args.length==n|none=>false)&&decide (0≤t.index)&&(t.index==0||t.kind==1)&&(bif xu t.kind then t.ty.ok else t.ty.isNo)
mutual
def Tm.shape:Tm→Bool
 | .mk k i h xs=>(Tm.mk k i h xs).head&&Tm.shapes xs
def Tm.shapes:List Tm→Bool
 |[]=>true
 |t::l=>t.shape&&Tm.shapes l
end
mutual
def Tm.size:Tm→Nat
 | .mk _ _ _ xs=>1+Tm.sizes xs
def Tm.sizes:List Tm→Nat
 |[]=>0
 |t::l=>t.size+Tm.sizes l
end
mutual
def Tm.full:Tm→Nat
 | .mk _ _ h xs=>1+h.size+Tm.fulls xs
def Tm.fulls:List Tm→Nat
 |[]=>0
 |t::l=>t.full+Tm.fulls l
end
theorem Tm.sizes_eq:∀l:List Tm,Tm.sizes l=(l.map Tm.size).sum
 |[]=>rfl
 |t::l=>by simp only[Tm.sizes,Tm.sizes_eq l,List.map_cons,List.sum_cons]
theorem Tm.fulls_eq:∀l:List Tm,Tm.fulls l=(l.map Tm.full).sum
 |[]=>rfl
 |t::l=>by simp only[Tm.fulls,Tm.fulls_eq l,List.map_cons,List.sum_cons]
theorem Tm.shapes_eq:∀l:List Tm,Tm.shapes l=l.all Tm.shape
 |[]=>rfl
 |t::l=>by simp only[Tm.shapes,Tm.shapes_eq l,List.all_cons]
theorem Tm.size_eq(t:Tm):t.size=1+(t.args.map Tm.size).sum:=by cases t;simp only[Tm.size,Tm.sizes_eq,Tm.args_mk]
theorem Tm.full_eq(t:Tm):t.full=1+t.ty.size+(t.args.map Tm.full).sum:=by cases t;simp only[Tm.full,Tm.fulls_eq,Tm.args_mk,Tm.ty_mk]
theorem Tm.shape_eq(t:Tm):t.shape=(t.head&&t.args.all Tm.shape):=by cases t;simp only[Tm.shape,Tm.shapes_eq,Tm.args_mk]
theorem Tm.size_pos(t:Tm):1≤t.size:=by rw[Tm.size_eq];omega
theorem Tm.full_pos(t:Tm):1≤t.full:=by rw[Tm.full_eq];omega
theorem Tm.ind{P:Tm→Prop}(h:∀t,(∀x∈t.args,P x)→P t)(t:Tm):P t:=by
 have:∀b (t:Tm),t.size≤b→P t:=by
  intro b
  induction b with
  |zero=>intro t ht;have:=t.size_pos;omega
  |succ b ih=>
   intro t ht
   refine h t fun x hx=>ih x ?_
   have:=zb Tm.size hx
   have:=t.size_eq
   omega
 exact this _ t (Nat.le_refl _)
theorem Tm.size_le_full(t:Tm):t.size≤t.full:=by
 induction t using Tm.ind with
 |h t ih=>
  have:∀l:List Tm,(∀x∈l,x.size≤x.full)→(l.map Tm.size).sum≤(l.map Tm.full).sum:=by
   intro l
   induction l with
   |nil=>intro _;simp
   |cons x l ih=>intro h;have:=ih fun y hy=>h y (by simp[hy]);have:=h x (by simp);simp only[List.map_cons,List.sum_cons];omega
  have:=this t.args ih
  rw[t.size_eq,t.full_eq];omega
def Tm.nodes(t:Tm):Nat:=if t.shape then t.size else 0
theorem Tm.nodes_le(t:Tm):t.nodes≤t.size:=by simp only[Tm.nodes];split<;>omega
def Ty.err(t:Ty):Int:=if t.shape=false then 2 else if t.size>64 then 4 else 0
def Ty.num(t:Ty):Int:=if t.err=0 then t.size else 0
def noTy:Ty:= .mk 0 []
def Tm.err(t:Tm):Int:=if t.shape=false then 2 else if t.size>4096 then 4 else 0
def Tm.num(t:Tm):Int:=if t.err=0 then t.size else 0
def Zbo:Tm:= .mk 0 0 (.mk 0 []) []
def Zlq(t:Ty):V:= .tup [.i t.nodes,.bool t.shape]
def Zgb(t:Tm):V:= .tup [.i t.nodes,.bool t.shape]
abbrev big:Nat:=1099511627776
end Go.Ab
namespace Go.Ab
set_option linter.all false
mutual
def Ty.same:Ty→Ty→Bool
 | .mk k xs,.mk k' ys=>k==k'&&Ty.sames xs ys
def Ty.sames:List Ty→List Ty→Bool
 |[],[]=>true
 |x::xs,y::ys=>x.same y&&Ty.sames xs ys
 |_,_=>false
end
mutual
theorem Ty.same_iff:∀a b:Ty,a.same b=true↔a=b
 | .mk k xs,.mk k' ys=>by simp only[Ty.same,Bool.and_eq_true,beq_iff_eq,Ty.mk.injEq,Ty.sames_iff xs ys]
theorem Ty.sames_iff:∀a b:List Ty,Ty.sames a b=true↔a=b
 |[],[]=>by simp[Ty.sames]
 |x::xs,y::ys=>by simp only[Ty.sames,Bool.and_eq_true,List.cons.injEq,Ty.same_iff x y,Ty.sames_iff xs ys]
 |[],_::_=>by simp[Ty.sames]
 |_::_,[]=>by simp[Ty.sames]
end
instance:DecidableEq Ty:=fun a b=>decidable_of_iff _ (Ty.same_iff a b)
mutual
def Tm.same:Tm→Tm→Bool
 | .mk k i h xs,.mk k' i' h' ys=>k==k'&&i==i'&&decide (h=h')&&Tm.sames xs ys
def Tm.sames:List Tm→List Tm→Bool
 |[],[]=>true
 |x::xs,y::ys=>x.same y&&Tm.sames xs ys
 |_,_=>false
end
mutual
theorem Tm.same_iff:∀a b:Tm,a.same b=true↔a=b
 | .mk k i h xs,.mk k' i' h' ys=>by simp only[Tm.same,Bool.and_eq_true,beq_iff_eq,Tm.mk.injEq,Tm.sames_iff xs ys,decide_eq_true_eq,and_assoc]
theorem Tm.sames_iff:∀a b:List Tm,Tm.sames a b=true↔a=b
 |[],[]=>by simp[Tm.sames]
 |x::xs,y::ys=>by simp only[Tm.sames,Bool.and_eq_true,List.cons.injEq,Tm.same_iff x y,Tm.sames_iff xs ys]
 |[],_::_=>by simp[Tm.sames]
 |_::_,[]=>by simp[Tm.sames]
end
instance:DecidableEq Tm:=fun a b=>decidable_of_iff _ (Tm.same_iff a b)
theorem Ty.eq_iff(a b:Ty):a=b↔a.kind=b.kind∧a.args=b.args:=by cases a;cases b;simp
theorem Tm.eq_iff(a b:Tm):a=b↔a.kind=b.kind∧a.index=b.index∧a.ty=b.ty∧a.args=b.args:=by cases a;cases b;simp
theorem Zuk{α:Type}{xs ys:List α}(hl:xs.length=ys.length)(h:∀j (hj:j<xs.length),j<xs.length→xs[j]=ys[j]'(by omega)):xs=ys:=
 List.ext_getElem hl fun i h1 h2=>h i h1 h1
theorem Zq6{α:Type}{xs ys:List α}{m:Nat}(h1:m<xs.length)(h2:m<ys.length)(h:¬xs[m]=ys[m]):¬xs=ys:=fun he=>by subst he;exact h rfl
theorem Ybd{α:Type}{xs ys:List α}(hl:xs.length=ys.length){m:Nat}(hm:m<xs.length)(h:∀j (hj:j<xs.length),j<m→xs[j]=ys[j]'(by omega))(h1:xs[m]=ys[m]'(by omega)):∀j (hj:j<xs.length),j<m+1→xs[j]=ys[j]'(by omega):=by
 intro j hj hlt
 by_cases hjm:j=m
 ·subst hjm;exact h1
 ·exact h j hj (by omega)
def up(k b:Int):Int:=if k=2 then b+1 else b
mutual
def Tm.vars(b:Int):Tm→List (Int×Int)
 | .mk k i _ xs=>(if k=1 then [(i,b)] else [])++Tm.varss (up k b) xs
def Tm.varss(b:Int):List Tm→List (Int×Int)
 |[]=>[]
 |t::l=>t.vars b++Tm.varss b l
end
theorem Tm.varss_eq(b:Int):∀l:List Tm,Tm.varss b l=l.flatMap (Tm.vars b)
 |[]=>rfl
 |t::l=>by simp only[Tm.varss,Tm.varss_eq b l,List.flatMap_cons]
theorem Tm.vars_eq(b:Int)(t:Tm):t.vars b=(if t.kind=1 then [(t.index,b)] else [])++t.args.flatMap (Tm.vars (up t.kind b)):=by cases t;simp only[Tm.vars,Tm.varss_eq,Tm.kind_mk,Tm.index_mk,Tm.args_mk];rfl
mutual
def Tm.re(g:Int→Int→Tm)(b:Int):Tm→Tm
 | .mk k i h xs=>if k=1 then g i b else .mk k i h (Tm.res g (up k b) xs)
def Tm.res(g:Int→Int→Tm)(b:Int):List Tm→List Tm
 |[]=>[]
 |t::l=>t.re g b::Tm.res g b l
end
theorem Tm.res_eq(g:Int→Int→Tm)(b:Int):∀l:List Tm,Tm.res g b l=l.map (Tm.re g b)
 |[]=>rfl
 |t::l=>by simp only[Tm.res,Tm.res_eq g b l,List.map_cons]
theorem Tm.re_eq(g:Int→Int→Tm)(b:Int)(t:Tm):t.re g b=if t.kind=1 then g t.index b else .mk t.kind t.index t.ty (t.args.map (Tm.re g (up t.kind b))):=by cases t;simp only[Tm.re,Tm.res_eq,Tm.kind_mk,Tm.index_mk,Tm.args_mk,Tm.ty_mk];rfl
theorem Zav{α β:Type}(f:α→List β)(l:List α)(m:Nat)(h:m<l.length):(l.take (m+1)).flatMap f=(l.take m).flatMap f++f l[m]:=by
 rw[←List.take_append_getElem h,List.flatMap_append];simp
theorem yc{α β:Type}(f:α→β)(l:List α)(m:Nat)(h:m<l.length):(l.take (m+1)).map f=(l.take m).map f++[f l[m]]:=by
 rw[←List.take_append_getElem h,List.map_append];simp
theorem yx{α:Type}{f g:α→Nat}:∀(l:List α),(∀x∈l,f x≤g x)→(l.map f).sum≤(l.map g).sum
 |[],_=>Nat.le_refl _
 |x::l,h=>by have:=yx l fun y hy=>h y (by simp[hy]);have:=h x (by simp);simp only[List.map_cons,List.sum_cons];omega
theorem Zt3(l:List Tm)(f:Tm→List (Int×Int))(h:∀x∈l,(f x).length≤x.size):(l.flatMap f).length≤(l.map Tm.size).sum:=by
 induction l with
 |nil=>simp
 |cons x l ih=>
  have:=ih fun y hy=>h y (by simp[hy])
  have:=h x (by simp)
  simp only[List.flatMap_cons,List.length_append,List.map_cons,List.sum_cons];omega
theorem Tm.vars_len(t:Tm):∀b,(t.vars b).length≤t.size:=by
 induction t using Tm.ind with
 |h t ih=>
  intro b
  rw[t.vars_eq,t.size_eq]
  have:=Zt3 t.args (Tm.vars (up t.kind b)) fun x hx=>ih x hx _
  split<;>simp only[List.length_append,List.length_cons,List.length_nil]<;>omega
def Tm.near(t:Tm):Bool:=(t.vars 0).all fun p=>decide (p.1≤536870912)
def cnt(at_:Int)(l:List (Int×Int)):Nat:=(l.filter fun p=>p.1-p.2==at_).length
theorem vm(at_:Int)(l l':List (Int×Int)):cnt at_ (l++l')=cnt at_ l+cnt at_ l':=by simp[cnt]
theorem Zn1(at_:Int)(l:List (Int×Int)):cnt at_ l≤l.length:=List.length_filter_le _ _
theorem Tm.vars_nonneg(t:Tm)(h:t.shape=true):∀b,∀p∈t.vars b,0≤p.1:=by
 induction t using Tm.ind with
 |h t ih=>
  intro b p hp
  rw[t.shape_eq,Bool.and_eq_true] at h
  rw[t.vars_eq,List.mem_append] at hp
  rcases hp with hp|hp
  ·split at hp
   ·simp at hp;subst hp
    have:=h.1
    simp only[Tm.head,Bool.and_eq_true,decide_eq_true_eq] at this
    exact this.1.1.2
   ·cases hp
  ·obtain ⟨x,hx,hp⟩:=List.mem_flatMap.1 hp
   exact ih x hx (List.all_eq_true.1 h.2 x hx) _ p hp
theorem Zsk(n k:Int)(hk:0<k): -k<n.tmod k:=by
 have h:=Int.natAbs_tmod n k
 have h2:=Nat.mod_lt n.natAbs (show 0<k.natAbs by omega)
 omega
def natT:Ty:= .mk 1 []
def listT:Ty:= .mk 2 []
def Zhd:Ty:= .mk 5 []
def Zbe(a b:Ty):Ty:= .mk 3 [a,b]
def yw(a b:Ty):Ty:= .mk 4 [a,b]
def okT(t:Ty):Ty×Int:=if t.err=0 then(t,0) else(noTy,4)
def at0(l:List Ty)(i:Nat):Ty:=l.getD i noTy
def wq(k:Int)(h:Ty)(l:List Ty):Ty×Int:=
 let a:=at0 l 0
 let b:=at0 l 1
 let c:=at0 l 2
 if k=3 then(if ¬a.kind=4∨¬at0 a.args 0=b then(noTy,7) else(at0 a.args 1,0))
 else if k=4 then(natT,0)
 else if k=5 then(if ¬a=natT then(noTy,7) else(natT,0))
 else if k=6 then(if ¬a=h∨¬b=yw natT (yw h h)∨¬c=natT then(noTy,7) else(h,0))
 else if k=7 then(listT,0)
 else if k=8 then(if ¬a=natT∨¬b=listT then(noTy,7) else(listT,0))
 else if k=9 then(if ¬a=h∨¬b=yw natT (yw listT (yw h h))∨¬c=listT then(noTy,7) else(h,0))
 else if k=10 then okT (Zbe a b)
 else if k=11∨k=12 then(if ¬a.kind=3 then(noTy,7) else if k=11 then(at0 a.args 0,0) else(at0 a.args 1,0))
 else(Zhd,0)
mutual
def Tm.inf:List Ty→Tm→Ty×Int
 |g,.mk k i h xs=>
  if k=1 then(if i≥g.length then(noTy,6) else(at0 g (g.length-1-i.toNat),0))
  else if k=2 then(if(Tm.infs (g++[h]) xs).2≠0 then(noTy,(Tm.infs (g++[h]) xs).2) else okT (yw h (at0 (Tm.infs (g++[h]) xs).1 0)))
  else if(Tm.infs g xs).2≠0 then(noTy,(Tm.infs g xs).2) else wq k h (Tm.infs g xs).1
def Tm.infs:List Ty→List Tm→List Ty×Int
 |_,[]=>([],0)
 |g,t::l=>if(t.inf g).2≠0 then([],(t.inf g).2) else if(Tm.infs g l).2≠0 then([],(Tm.infs g l).2) else((t.inf g).1::(Tm.infs g l).1,0)
end
theorem Zbs(at_:Int)(p:Int×Int):cnt at_ [p]=if p.1-p.2=at_ then 1 else 0:=by simp only[cnt,List.filter_cons,List.filter_nil];by_cases h:p.1-p.2=at_<;>simp[h]
def zq(fr by_:Int)(i b:Int):Tm:= .mk 1 (if i-b≥fr then i+by_ else i) (.mk 0 []) []
def y5(at_:Int)(s:Tm)(i b:Int):Tm:=if i-b=at_ then s.re (zq 0 (at_+b)) 0 else .mk 1 (if i-b>at_ then i-1 else i) (.mk 0 []) []
def Yay(n k:Int):Int:=((n.tmod k)+k).tmod k
structure Dk where
 l:List Int
 at_:Nat
def Dk.ok(d:Dk):Prop:=d.at_≤d.l.length∧d.l.length<1099511627776
def Dk.next(d:Dk)(n:Int):Int×Dk:=if h:n<1∨d.l.length≤d.at_ then(0,d) else(Yay (d.l[d.at_]'(by omega)) n,⟨d.l,d.at_+1⟩)
def Dk.cells(d:Dk):List V:=[.s .int d.l,.i d.at_]
def putErr(t:Tm)(at_:Int)(s:Tm):Int:=
 if t.err≠0 then t.err else if ¬(0≤at_∧at_≤4096) then 1 else if s.err≠0 then s.err else if t.near=false∨s.near=false then 1 else if(t.size:Int)+cnt at_ (t.vars 0)*(s.size-1)>4096 then 4 else 0
theorem w6{t:Tm}(h:t.err=0):t.shape=true∧t.size≤4096:=by
 simp only[Tm.err] at h
 split at h
 ·omega
 ·split at h
  ·omega
  ·rename_i h1 h2;exact⟨by simpa using h1,by omega⟩
theorem Ztn{t:Tm}(h:t.err=0)(hn:t.near=true):∀p∈t.vars 0,0≤p.1∧p.1<549755813888:=fun p hp=>
 ⟨t.vars_nonneg (w6 h).1 0 p hp,by have:=List.all_eq_true.1 hn p hp;simp at this;omega⟩
theorem Zx5(c d:Int)(hc:0≤c∧c≤274877906944)(hd: -1≤d∧d≤4096): -274877906944≤c*d∧c*d≤1125899906842624:=by
 constructor
 ·have:=Int.mul_le_mul_of_nonneg_left hd.1 hc.1;omega
 ·have:=Int.mul_le_mul_of_nonneg_left hd.2 hc.1;omega
theorem Dk.next_ok{d:Dk}(h:d.ok)(n:Int):(d.next n).2.ok:=by
 simp only[Dk.next];split
 ·exact h
 ·rename_i hc;obtain⟨h1,h2⟩:=h;exact⟨by simp only;omega,h2⟩
def Dk.type:Nat→Dk→Ty×Dk
 |0,d=>let r:=d.next 7;(if r.1=3 then .mk 2 [] else if r.1=4 then .mk 5 [] else .mk 1 [],r.2)
 |n+1,d=>
  let r:=d.next 7
  if r.1=5∨r.1=6 then
   let a:=r.2.type n
   let b:=a.2.type n
   (.mk (if r.1=5 then 3 else 4) [a.1,b.1],b.2)
  else(if r.1=3 then .mk 2 [] else if r.1=4 then .mk 5 [] else .mk 1 [],r.2)
theorem Dk.type_ok:∀(n:Nat) (d:Dk),d.ok→(d.type n).2.ok
 |0,d,h=>Dk.next_ok h 7
 |n+1,d,h=>by
  simp only[Dk.type];split
  ·exact Dk.type_ok n _ (Dk.type_ok n _ (Dk.next_ok h 7))
  ·exact Dk.next_ok h 7
theorem Dk.type_eq(k:Int)(d:Dk):d.type k.toNat=(if 0<k∧((d.next 7).1=5∨(d.next 7).1=6) then
 (.mk (if(d.next 7).1=5 then 3 else 4) [((d.next 7).2.type (k-1).toNat).1,((((d.next 7).2.type (k-1).toNat).2).type (k-1).toNat).1],((((d.next 7).2.type (k-1).toNat).2).type (k-1).toNat).2)
 else(if(d.next 7).1=3 then .mk 2 [] else if(d.next 7).1=4 then .mk 5 [] else .mk 1 [],(d.next 7).2)):=by
 by_cases hk:0<k
 ·have e:k.toNat=(k-1).toNat+1:=by omega
  rw[e];simp only[Dk.type,hk,true_and]
 ·have e:k.toNat=0:=by omega
  rw[e];simp only[Dk.type,hk,false_and,if_false]
theorem Dk.type_size:∀(n:Nat) (d:Dk),(d.type n).1.size≤2^(n+1)-1
 |0,d=>by simp only[Dk.type];(repeat' split)<;>simp[Ty.size_eq]
 |n+1,d=>by
  have h1:=Dk.type_size n (d.next 7).2
  have h2:=Dk.type_size n ((d.next 7).2.type n).2
  have h3:2^(n+1+1)=2^(n+1)+2^(n+1):=by rw[Nat.pow_succ];omega
  have h4:2≤2^(n+1):=by rw[Nat.pow_succ];have:= @Nat.one_le_two_pow n;omega
  simp only[Dk.type];split
  ·rw [Ty.size_eq];simp only[Ty.args_mk,List.map_cons,List.map_nil,List.sum_cons,List.sum_nil];omega
  ·have:∀x:Int,(Ty.mk x []).size=1:=fun x=>by simp[Ty.size_eq]
   simp only
   (repeat' split)<;>rw[this]<;>omega
theorem Dk.type_small(d:Dk)(k:Int)(h:k≤20):(d.type k.toNat).1.size<1099511627776:=by
 have h1:=Dk.type_size k.toNat d
 have h2:2^(k.toNat+1)≤2^21:=Nat.pow_le_pow_right (by omega) (by omega)
 omega
def Zii:Nat→Tm
 |0=> .mk 4 0 (.mk 0 []) []
 |n+1=> .mk 5 0 (.mk 0 []) [Zii n]
def Zcm(n:Int):Tm:=if 0≤n∧n<4096 then Zii n.toNat else Zbo
def Dk.types:Nat→Dk→List Ty×Dk
 |0,d=>([],d)
 |n+1,d=>let a:=d.type 1;let b:=a.2.types n;(a.1::b.1,b.2)
theorem Dk.types_snoc:∀(n:Nat) (d:Dk),d.types (n+1)=((d.types n).1++[((d.types n).2.type 1).1],((d.types n).2.type 1).2)
 |0,d=>rfl
 |n+1,d=>by
  have:=Dk.types_snoc n (d.type 1).2
  show((d.type 1).1::((d.type 1).2.types (n+1)).1,((d.type 1).2.types (n+1)).2)=_
  rw[this];rfl
theorem Dk.types_ok:∀(n:Nat) (d:Dk),d.ok→(d.types n).2.ok
 |0,d,h=>h
 |n+1,d,h=>Dk.types_ok n _ (Dk.type_ok 1 d h)
theorem Dk.types_len:∀(n:Nat) (d:Dk),(d.types n).1.length=n
 |0,d=>rfl
 |n+1,d=>by simp[Dk.types,Dk.types_len n]
theorem Zl3(n k:Int)(hk:0<k):0≤Yay n k∧Yay n k<k:=by
 have h1:=Zsk n k hk
 constructor
 ·exact Int.tmod_nonneg _ (by omega)
 ·exact Int.tmod_lt_of_pos _ hk
theorem Dk.next_bd(d:Dk)(n:Int)(hn:0<n):0≤(d.next n).1∧(d.next n).1<n:=by
 simp only[Dk.next];split
 ·exact ⟨by simp,hn⟩
 ·exact Zl3 _ _ hn
def Dk.ctx(d:Dk):List Ty×Dk:=(d.next 4).2.types (d.next 4).1.toNat
def appT(f:Tm):List Tm→Tm
 |[]=>f
 |x::l=>appT (.mk 3 0 (.mk 0 []) [f,x]) l
def vT(i:Int):Tm:= .mk 1 i (.mk 0 []) []
def Zcp(t:Tm):Tm:= .mk 2 0 (.mk 1 []) [t]
def Zk8(b f n:Tm):Tm:= .mk 6 0 (.mk 1 []) [b,f,n]
def sT(t:Tm):Tm:= .mk 5 0 (.mk 0 []) [t]
def zT:Tm:= .mk 4 0 (.mk 0 []) []
def apT(f x:Tm):Tm:= .mk 3 0 (.mk 0 []) [f,x]
def Zu1:Tm:=Zcp (Zcp (sT (vT 0)))
def plusT:Tm:=Zcp (Zcp (Zk8 (vT 1) Zu1 (vT 0)))
def predT:Tm:=Zcp (Zk8 zT (Zcp (Zcp (vT 1))) (vT 0))
def Zy7:Tm:=Zcp (Zcp (apT predT (vT 0)))
def subT:Tm:=Zcp (Zcp (Zk8 (vT 1) Zy7 (vT 0)))
def Zsg(t:Tm)(fr by_:Int):Int:=if t.err≠0 then t.err else if ¬(0≤fr∧fr≤4096)∨¬(0≤by_∧by_≤4096)∨t.near=false then 1 else 0
def xy(g:List Ty)(t:Ty):List Int:=((List.range g.length).filter fun i=>decide (g[g.length-1-i]? =some t)).map Int.ofNat
def wy:List Ty→Int
 |[]=>0
 |t::l=>if t.err≠0 then t.err else wy l
theorem Zl7:∀(l:List Ty) (m:Nat) (hm:m<l.length),(∀j (hj:j<l.length),j<m→l[j].err=0)→l[m].err≠0→wy l=l[m].err:=by
 intro l
 induction l with
 |nil=>intro m hm;simp at hm
 |cons t l ih=>
  intro m hm h h1
  cases m with
  |zero=>simp only[List.getElem_cons_zero] at h1;simp only[wy];rw[if_pos h1];rfl
  |succ m=>
   have h0:=h 0 (by simp) (by omega)
   simp only[List.getElem_cons_zero] at h0
   simp only[wy,h0,ne_eq,not_true_eq_false,if_false,List.getElem_cons_succ]
   simp only[List.length_cons] at hm
   exact ih m (by omega) (fun j hj hlt=>by have:=h (j+1) (by simp;omega) (by omega);simpa using this) h1
theorem Zd5:∀(l:List Ty),(∀j (hj:j<l.length),j<l.length→l[j].err=0)→wy l=0:=by
 intro l
 induction l with
 |nil=>intro _;rfl
 |cons t l ih=>
  intro h
  have h0:=h 0 (by simp) (by simp)
  simp only[List.getElem_cons_zero] at h0
  simp only[wy,h0,ne_eq,not_true_eq_false,if_false]
  exact ih fun j hj _=>by have:=h (j+1) (by simp;omega) (by simp;omega);simpa using this
def y6(l:List Ty):Int:=if l.length>16 then 3 else wy l
def Zsp(k:Int):Int:=if k=1∨k=4∨k=7∨k=13 then 0 else if k=2∨k=5∨k=11∨k=12 then 1 else if k=3∨k=8∨k=10 then 2 else if k=6∨k=9 then 3 else -1
def nT(k:Int)(l:List Tm):Tm:= .mk k 0 (.mk 0 []) l
def hT(k:Int)(s:Ty)(l:List Tm):Tm:= .mk k 0 s l
def lmT(s:Ty)(x:Tm):Tm:= .mk 2 0 s [x]
def Zpx(g:List Ty)(t:Ty)(i:Nat):Bool:=(at0 g (g.length-1-i)).kind==4&&decide (at0 (at0 g (g.length-1-i)).args 1=t)
def Zqb(g:List Ty)(t:Ty):Option Nat:=(List.range g.length).find? (Zpx g t)
abbrev MkF:=Dk→List Ty→Ty→Tm×Dk
def Dk.fin(rec:MkF)(pos:Bool)(d:Dk)(g:List Ty)(t:Ty):Tm×Dk:=
 if t.kind=1 then
  if pos=true then
   if(d.next 5).1=0 then(sT (rec (d.next 5).2 g t).1,(rec (d.next 5).2 g t).2)
   else if(d.next 5).1=1 then
    (apT (apT plusT (rec (d.next 5).2 g t).1) (rec (rec (d.next 5).2 g t).2 g t).1,(rec (rec (d.next 5).2 g t).2 g t).2)
   else if(d.next 5).1=2 then
    (apT (apT subT (rec (d.next 5).2 g t).1) (rec (rec (d.next 5).2 g t).2 g t).1,(rec (rec (d.next 5).2 g t).2 g t).2)
   else(Zcm ((d.next 5).2.next 3).1,((d.next 5).2.next 3).2)
  else(Zcm (d.next 3).1,(d.next 3).2)
 else if t.kind=2 then
  if pos=true then
   if(d.next 2).1=0 then(nT 8 [(rec (d.next 2).2 g natT).1,(rec (rec (d.next 2).2 g natT).2 g t).1],(rec (rec (d.next 2).2 g natT).2 g t).2)
   else(nT 7 [],(d.next 2).2)
  else(nT 7 [],d)
 else if t.kind=3 then(nT 10 [(rec d g (at0 t.args 0)).1,(rec (rec d g (at0 t.args 0)).2 g (at0 t.args 1)).1],(rec (rec d g (at0 t.args 0)).2 g (at0 t.args 1)).2)
 else if t.kind=4 then(lmT (at0 t.args 0) (rec d (g++[at0 t.args 0]) (at0 t.args 1)).1,(rec d (g++[at0 t.args 0]) (at0 t.args 1)).2)
 else(nT 13 [],d)
def Dk.m0(rec:MkF)(d:Dk)(g:List Ty)(t s:Ty):Tm×Dk:=(apT (lmT s (rec d (g++[s]) t).1) (rec (rec d (g++[s]) t).2 g s).1,(rec (rec d (g++[s]) t).2 g s).2)
def Dk.m1(rec:MkF)(d:Dk)(g:List Ty)(t s:Ty):Tm×Dk:=(nT 11 [nT 10 [(rec d g t).1,(rec (rec d g t).2 g s).1]],(rec (rec d g t).2 g s).2)
def Dk.m2(rec:MkF)(d:Dk)(g:List Ty)(t:Ty):Tm×Dk:=
 (hT 6 t [(rec (rec d (g++[natT,t]) t).2 g t).1,lmT natT (lmT t (rec d (g++[natT,t]) t).1),Zcm ((rec (rec d (g++[natT,t]) t).2 g t).2.next 3).1],((rec (rec d (g++[natT,t]) t).2 g t).2.next 3).2)
def Dk.m3(rec:MkF)(d:Dk)(g:List Ty)(t:Ty):Tm×Dk:=
 (hT 9 t [(rec (rec d (g++[natT,listT,t]) t).2 g t).1,lmT natT (lmT listT (lmT t (rec d (g++[natT,listT,t]) t).1)),(rec (rec (rec d (g++[natT,listT,t]) t).2 g t).2 g listT).1],(rec (rec (rec d (g++[natT,listT,t]) t).2 g t).2 g listT).2)
def Dk.m4(rec:MkF)(d:Dk)(g:List Ty)(t s:Ty):Tm×Dk:=(nT 12 [nT 10 [(rec d g s).1,(rec (rec d g s).2 g t).1]],(rec (rec d g s).2 g t).2)
def Dk.m5(rec:MkF)(pos:Bool)(d:Dk)(g:List Ty)(t:Ty):Tm×Dk:=
 match Zqb g t with
 |some i=>(apT (vT i) (rec d g (at0 (at0 g (g.length-1-i)).args 0)).1,(rec d g (at0 (at0 g (g.length-1-i)).args 0)).2)
 |none=>d.fin rec pos g t
def Dk.mid(rec:MkF)(pos:Bool)(d:Dk)(g:List Ty)(t:Ty):Tm×Dk:=
 if pos=true then
  if(d.next 8).1=0 then((d.next 8).2.type 0).2.m0 rec g t ((d.next 8).2.type 0).1
  else if(d.next 8).1=1 then((d.next 8).2.type 0).2.m1 rec g t ((d.next 8).2.type 0).1
  else if(d.next 8).1=2 then(d.next 8).2.m2 rec g t
  else if(d.next 8).1=3 then(d.next 8).2.m3 rec g t
  else if(d.next 8).1=4 then((d.next 8).2.type 0).2.m4 rec g t ((d.next 8).2.type 0).1
  else if(d.next 8).1=5 then(d.next 8).2.m5 rec pos g t
  else(d.next 8).2.fin rec pos g t
 else d.fin rec pos g t
theorem Dk.mid_pos{rec:MkF}{pos:Bool}{d:Dk}{g:List Ty}{t:Ty}(h:pos=true):d.mid rec pos g t=
 if(d.next 8).1=0 then((d.next 8).2.type 0).2.m0 rec g t ((d.next 8).2.type 0).1
 else if(d.next 8).1=1 then((d.next 8).2.type 0).2.m1 rec g t ((d.next 8).2.type 0).1
 else if(d.next 8).1=2 then(d.next 8).2.m2 rec g t
 else if(d.next 8).1=3 then(d.next 8).2.m3 rec g t
 else if(d.next 8).1=4 then((d.next 8).2.type 0).2.m4 rec g t ((d.next 8).2.type 0).1
 else if(d.next 8).1=5 then(d.next 8).2.m5 rec pos g t
 else(d.next 8).2.fin rec pos g t:=if_pos h
def Dk.gen(rec:MkF)(pos:Bool)(d:Dk)(g:List Ty)(t:Ty):Tm×Dk:=
 if xy g t=[] then d.mid rec pos g t
 else if 0<(d.next 3).1 then(vT ((xy g t).getD ((d.next 3).2.next (xy g t).length).1.toNat 0),((d.next 3).2.next (xy g t).length).2)
 else(d.next 3).2.mid rec pos g t
def Dk.tm:Nat→MkF
 |0,d,_,_=>(Zbo,d)
 |n+1,d,g,t=>d.gen (Dk.tm n) (decide (2≤n)) g t
def Ty.small(t:Ty):Prop:=t.shape=true∧t.size≤3
def smalls(g:List Ty):Prop:=∀t∈g,t.small
inductive Mk:Nat→List Ty→Ty→Tm→Prop
 |var (n g t) (i:Nat) (hi:i<g.length) (h:at0 g (g.length-1-i)=t):Mk (n+1) g t (vT i)
 |app (n g t s a b) (hn:2≤n) (hs:s.shape=true) (h1:s.size=1) (ha:Mk n (g++[s]) t a) (hb:Mk n g s b):Mk (n+1) g t (apT (lmT s a) b)
 |fst (n g t s a b) (hn:2≤n) (hs:s.shape=true) (h1:s.size=1) (ha:Mk n g t a) (hb:Mk n g s b):Mk (n+1) g t (nT 11 [nT 10 [a,b]])
 |snd (n g t s a b) (hn:2≤n) (hs:s.shape=true) (h1:s.size=1) (ha:Mk n g s a) (hb:Mk n g t b):Mk (n+1) g t (nT 12 [nT 10 [a,b]])
 |recu (n g t a b m) (hn:2≤n) (hm:m<3) (ha:Mk n (g++[natT,t]) t a) (hb:Mk n g t b):Mk (n+1) g t (hT 6 t [b,lmT natT (lmT t a),Zii m])
 |fold (n g t a b c) (hn:2≤n) (ha:Mk n (g++[natT,listT,t]) t a) (hb:Mk n g t b) (hc:Mk n g listT c):Mk (n+1) g t (hT 9 t [b,lmT natT (lmT listT (lmT t a)),c])
 |ctx (n g t s a) (hn:2≤n) (i:Nat) (hi:i<g.length) (h:at0 g (g.length-1-i)=yw s t) (h1:s.size=1) (ha:Mk n g s a):Mk (n+1) g t (apT (vT i) a)
 |succ (n g a) (hn:2≤n) (ha:Mk n g natT a):Mk (n+1) g natT (sT a)
 |plus (n g a b) (hn:2≤n) (ha:Mk n g natT a) (hb:Mk n g natT b):Mk (n+1) g natT (apT (apT plusT a) b)
 |sub (n g a b) (hn:2≤n) (ha:Mk n g natT a) (hb:Mk n g natT b):Mk (n+1) g natT (apT (apT subT a) b)
 |num (n g m) (hm:m<3):Mk (n+1) g natT (Zii m)
 |cons (n g a b) (hn:2≤n) (ha:Mk n g natT a) (hb:Mk n g listT b):Mk (n+1) g listT (nT 8 [a,b])
 |nil (n g):Mk (n+1) g listT (nT 7 [])
 |pair (n g s t a b) (h1:s.size=1) (h2:t.size=1) (ha:Mk n g s a) (hb:Mk n g t b):Mk (n+1) g (Zbe s t) (nT 10 [a,b])
 |lam (n g s t a) (h1:s.size=1) (h2:t.size=1) (ha:Mk n (g++[s]) t a):Mk (n+1) g (yw s t) (lmT s a)
 |unit (n g):Mk (n+1) g Zhd (nT 13 [])
theorem Dk.fin_ok{rec:MkF}{pos:Bool}{d:Dk}{g:List Ty}{t:Ty}(h:∀d g t,d.ok→(rec d g t).2.ok)(hd:d.ok):(d.fin rec pos g t).2.ok:=by
 have h5:=Dk.next_ok hd 5
 have h3:=Dk.next_ok hd 3
 have h2:=Dk.next_ok hd 2
 unfold Dk.fin
 repeat' split
 all_goals first
  |exact hd|exact h3|exact h2|exact Dk.next_ok h5 3|exact h _ _ _ h5|exact h _ _ _ (h _ _ _ h5)|exact h _ _ _ (h _ _ _ h2)|exact h _ _ _ (h _ _ _ hd)|exact h _ _ _ hd
theorem Dk.mid_ok{rec:MkF}{pos:Bool}{d:Dk}{g:List Ty}{t:Ty}(h:∀d g t,d.ok→(rec d g t).2.ok)(hd:d.ok):(d.mid rec pos g t).2.ok:=by
 have h8:=Dk.next_ok hd 8
 have hs:=Dk.type_ok 0 _ h8
 have hf:=Dk.fin_ok (pos:=pos) (g:=g) (t:=t) h h8
 unfold Dk.mid Dk.m0 Dk.m1 Dk.m2 Dk.m3 Dk.m4 Dk.m5
 repeat' split
 all_goals first
  |exact hf|exact Dk.fin_ok h hd|exact h _ _ _ (h _ _ _ hs)|exact Dk.next_ok (h _ _ _ (h _ _ _ h8)) 3|exact h _ _ _ (h _ _ _ (h _ _ _ h8))|exact h _ _ _ h8
theorem Dk.gen_ok{rec:MkF}{pos:Bool}{d:Dk}{g:List Ty}{t:Ty}(h:∀d g t,d.ok→(rec d g t).2.ok)(hd:d.ok):(d.gen rec pos g t).2.ok:=by
 unfold Dk.gen
 repeat' split
 ·exact Dk.mid_ok h hd
 ·exact Dk.next_ok (Dk.next_ok hd 3) _
 ·exact Dk.mid_ok h (Dk.next_ok hd 3)
theorem Dk.tm_ok:∀(n:Nat) (d:Dk) (g:List Ty) (t:Ty),d.ok→(Dk.tm n d g t).2.ok
 |0,d,_,_,h=>h
 |n+1,d,g,t,h=>Dk.gen_ok (fun d g t hd=>Dk.tm_ok n d g t hd) h
theorem Ty.err_iff(t:Ty):t.err=0↔t.shape=true∧t.size≤64:=by
 simp only[Ty.err]
 cases t.shape
 ·simp
 ·by_cases h:t.size>64
  ·simp [h]
  ·simp [h];omega
theorem Ty.err_args{t x:Ty}(h:t.err=0)(hx:x∈t.args):x.err=0:=by
 rw[Ty.err_iff] at h ⊢
 have h1:=zb Ty.size hx
 have h2:=t.size_eq
 have h3:=h.1
 rw[Ty.shape_eq,Bool.and_eq_true] at h3
 exact⟨List.all_eq_true.1 h3.2 x hx,by omega⟩
theorem Ty.args_two{t:Ty}(h:t.shape=true)(hk:t.kind=3∨t.kind=4):∃x y,t.args=[x,y]:=by
 rw[Ty.shape_eq,Bool.and_eq_true] at h
 have h1:arT t.kind=some 2:=by rcases hk with hk|hk<;>rw[hk]<;>rfl
 have h2:=h.1
 rw[h1] at h2
 simp at h2
 match hl:t.args,h2 with
 |[x,y],_=>exact⟨x,y,rfl⟩
theorem Zlm{l:List Ty}{i:Nat}(h:i<l.length):at0 l i=l[i]:=by simp[at0,h]
theorem Zjg{l:List Ty}{i:Nat}(h:i<l.length):at0 l i∈l:=by rw[Zlm h];exact List.getElem_mem h
@[simp] theorem Zb2(x:Ty)(l:List Ty):at0 (x::l) 0=x:=rfl
@[simp] theorem Zd4(x y:Ty)(l:List Ty):at0 (x::y::l) 1=y:=rfl
@[simp] theorem Zla(x y z:Ty)(l:List Ty):at0 (x::y::z::l) 2=z:=rfl
theorem Tm.infs_err(g:List Ty):∀(xs:List Tm) (m:Nat) (hm:m<xs.length),(∀j (hj:j<xs.length),j<m→(xs[j].inf g).2=0)→(xs[m].inf g).2≠0→Tm.infs g xs=([],(xs[m].inf g).2):=by
 intro xs
 induction xs with
 |nil=>intro m hm;simp at hm
 |cons x l ih=>
  intro m hm h h1
  cases m with
  |zero=>simp only[List.getElem_cons_zero] at h1 ⊢;simp only[Tm.infs];rw[if_pos h1]
  |succ m=>
   have h0:=h 0 (by simp) (by omega)
   simp only[List.getElem_cons_zero] at h0
   simp only[List.length_cons] at hm
   have h2:=ih m (by omega) (fun j hj hlt=>by have:=h (j+1) (by simp;omega) (by omega);simpa using this) (by simpa using h1)
   simp only[List.getElem_cons_succ] at h1 ⊢
   simp only[Tm.infs,h0,ne_eq,not_true_eq_false,if_false,h2,h1,not_false_eq_true,if_true]
theorem Tm.infs_ok(g:List Ty):∀(xs:List Tm),(∀x∈xs,(x.inf g).2=0)→Tm.infs g xs=(xs.map fun x=>(x.inf g).1,0):=by
 intro xs
 induction xs with
 |nil=>intro _;rfl
 |cons x l ih=>
  intro h
  have h0:=h x (by simp)
  have h1:=ih fun y hy=>h y (by simp[hy])
  simp only[Tm.infs,h0,h1,ne_eq,not_true_eq_false,if_false,List.map_cons]
theorem Tm.infs_all(g:List Ty):∀(xs:List Tm),(Tm.infs g xs).2=0→∀x∈xs,(x.inf g).2=0:=by
 intro xs
 induction xs with
 |nil=>intro _ x hx;cases hx
 |cons y l ih=>
  intro h x hx
  simp only[Tm.infs] at h
  by_cases h1:(y.inf g).2=0
  ·by_cases h2:(Tm.infs g l).2=0
   ·rcases List.mem_cons.1 hx with rfl|hx
    ·exact h1
    ·exact ih h2 x hx
   ·simp only[h1,h2,ne_eq,not_true_eq_false,if_false,not_false_eq_true,if_true] at h
  ·rw [if_pos h1] at h;exact absurd h h1
theorem Tm.inf_eq(g:List Ty)(t:Tm):t.inf g=(if t.kind=1 then(if t.index≥g.length then(noTy,6) else(at0 g (g.length-1-t.index.toNat),0))
 else if t.kind=2 then(if(Tm.infs (g++[t.ty]) t.args).2≠0 then(noTy,(Tm.infs (g++[t.ty]) t.args).2) else okT (yw t.ty (at0 (Tm.infs (g++[t.ty]) t.args).1 0)))
 else if(Tm.infs g t.args).2≠0 then(noTy,(Tm.infs g t.args).2) else wq t.kind t.ty (Tm.infs g t.args).1):=by
 cases t;rfl
theorem Zo0{t:Ty}(h:(okT t).2=0):(okT t).1.err=0:=by
 simp only[okT] at h ⊢;split
 ·rename_i h1;exact h1
 ·rename_i h1;simp[h1] at h
theorem Zcy{t:Tm}(h:t.shape=true):arK t.kind=some t.args.length:=by
 rw[Tm.shape_eq,Bool.and_eq_true] at h
 have h1:=h.1
 simp only[Tm.head,Bool.and_eq_true] at h1
 have h2:=h1.1.1.1
 split at h2
 ·rename_i n hn;rw[hn];simp at h2;rw[h2]
 ·cases h2
theorem zd{t:Tm}(h:t.shape=true):∀x∈t.args,x.shape=true:=by
 rw[Tm.shape_eq,Bool.and_eq_true] at h
 exact List.all_eq_true.1 h.2
theorem Zbg{t:Tm}(h:t.shape=true):0≤t.index∧(t.kind≠1→t.index=0):=by
 rw[Tm.shape_eq,Bool.and_eq_true] at h
 have h1:=h.1
 simp only[Tm.head,Bool.and_eq_true,decide_eq_true_eq,Bool.or_eq_true,beq_iff_eq] at h1
 exact⟨h1.1.1.2,fun hk=>h1.1.2.resolve_right hk⟩
theorem Zic{t:Tm}(h:t.shape=true)(hk:xu t.kind=true):t.ty.err=0:=by
 rw[Tm.shape_eq,Bool.and_eq_true] at h
 have h1:=h.1
 simp only[Tm.head,Bool.and_eq_true,hk,cond_true] at h1
 have h2:=h1.2
 simp only[Ty.ok,Bool.and_eq_true,decide_eq_true_eq] at h2
 exact(Ty.err_iff _).2 h2
theorem Zkk{k:Int}{n:Nat}(h:arK k=some n):(n=0∧(k=1∨k=4∨k=7∨k=13))∨(n=1∧(k=2∨k=5∨k=11∨k=12))∨(n=2∧(k=3∨k=8∨k=10))∨(n=3∧(k=6∨k=9)):=by
 simp only[arK] at h
 (repeat' split at h)<;>simp_all<;>omega
theorem len1{α:Type}{l:List α}(h:l.length=1):l=[l[0]'(by omega)]:=by
 match l,h with
 |[x],_=>rfl
theorem Yap{α:Type}{l:List α}(h:l.length=1):∃x,l=[x]:=⟨_,len1 h⟩
theorem Zwj{α:Type}{l:List α}(h:l.length=2):∃x y,l=[x,y]:=by
 match l,h with
 |[x,y],_=>exact⟨x,y,rfl⟩
theorem Ybv{α:Type}{l:List α}(h:l.length=3):∃x y z,l=[x,y,z]:=by
 match l,h with
 |[x,y,z],_=>exact⟨x,y,z,rfl⟩
theorem Zqk{k:Int}{h:Ty}{l:List Ty}(hk:arK k=some l.length)(hl:∀x∈l,x.err=0)(hh:xu k=true→h.err=0)(h0:(wq k h l).2=0):(wq k h l).1.err=0:=by
 have h1:∀i,i<l.length→(at0 l i).err=0:=fun i hi=>hl _ (Zjg hi)
 have h2:∀i,i<l.length→(at0 l i).kind=3∨(at0 l i).kind=4→∀j,j<2→(at0 (at0 l i).args j).err=0:=by
  intro i hi hk j hj
  obtain⟨x,y,hxy⟩:=Ty.args_two ((Ty.err_iff _).1 (h1 i hi)).1 hk
  refine Ty.err_args (h1 i hi) ?_
  exact Zjg (by rw[hxy];exact hj)
 rcases Zkk hk with⟨hn,hk⟩|⟨hn,hk⟩|⟨hn,hk⟩|⟨hn,hk⟩
 ·rcases hk with rfl|rfl|rfl|rfl<;>rfl
 ·rcases hk with rfl|rfl|rfl|rfl
  ·rfl
  ·simp only[wq] at h0 ⊢;simp at h0 ⊢;split<;>first|rfl|(exfalso;rename_i hc;simp[hc] at h0)
  ·simp only[wq] at h0 ⊢;simp at h0 ⊢
   by_cases hc:(at0 l 0).kind=3
   ·simp only[hc,if_true];exact h2 0 (by omega) (.inl hc) 0 (by omega)
   ·simp [hc] at h0
  ·simp only[wq] at h0 ⊢;simp at h0 ⊢
   by_cases hc:(at0 l 0).kind=3
   ·simp only[hc,if_true];exact h2 0 (by omega) (.inl hc) 1 (by omega)
   ·simp [hc] at h0
 ·rcases hk with rfl|rfl|rfl
  ·simp only[wq] at h0 ⊢
   simp only[if_true] at h0 ⊢
   by_cases hc:¬(at0 l 0).kind=4∨¬at0 (at0 l 0).args 0=at0 l 1
   ·simp [hc] at h0
   ·rw [if_neg hc]
    have:(at0 l 0).kind=4:=by simp at hc;exact hc.1
    exact h2 0 (by omega) (.inr this) 1 (by omega)
  ·simp only[wq] at h0 ⊢;simp at h0 ⊢;split<;>first|rfl|(exfalso;rename_i hc;simp[hc] at h0)
  ·simp only[wq] at h0 ⊢;simp at h0 ⊢;exact Zo0 h0
 ·rcases hk with rfl|rfl
  ·simp only[wq] at h0 ⊢;simp at h0 ⊢;split
   ·rename_i hc;simp[hc] at h0
   ·exact hh rfl
  ·simp only[wq] at h0 ⊢;simp at h0 ⊢;split
   ·rename_i hc;simp[hc] at h0
   ·exact hh rfl
theorem Tm.inf_good(t:Tm):∀g:List Ty,t.shape=true→(∀x∈g,x.err=0)→(t.inf g).2=0→(t.inf g).1.err=0:=by
 induction t using Tm.ind with
 |h t ih=>
  intro g hsh hg h0
  rw[Tm.inf_eq] at h0 ⊢
  by_cases h1:t.kind=1
  ·simp only[h1,if_true] at h0 ⊢
   by_cases h2:t.index≥g.length
   ·simp [h2] at h0
   ·rw [if_neg h2];have:=(Zbg hsh).1;exact hg _ (Zjg (by omega))
  ·simp only[h1,if_false] at h0 ⊢
   by_cases h2:t.kind=2
   ·simp only[h2,if_true] at h0 ⊢
    by_cases h3:(Tm.infs (g++[t.ty]) t.args).2=0
    ·simp only[h3,ne_eq,not_true_eq_false,if_false] at h0 ⊢;exact Zo0 h0
    ·rw [if_pos h3] at h0;exact absurd h0 h3
   ·simp only[h2,if_false] at h0 ⊢
    by_cases h3:(Tm.infs g t.args).2=0
    ·simp only[h3,ne_eq,not_true_eq_false,if_false] at h0 ⊢
     have h4:=Tm.infs_all g t.args h3
     have h5:=Tm.infs_ok g t.args h4
     rw[h5] at h0 ⊢
     refine Zqk (by rw[Zcy hsh];simp) ?_ (Zic hsh) h0
     intro x hx
     obtain⟨y,hy,rfl⟩:=List.mem_map.1 hx
     exact ih y hy g (zd hsh y hy) hg (h4 y hy)
    ·rw [if_pos h3] at h0;exact absurd h0 h3
theorem Zar{t:Ty}(h:t.shape=true)(hk:t.kind=1∨t.kind=2∨t.kind=5):t.args=[]:=by
 rw[Ty.shape_eq,Bool.and_eq_true] at h
 have h1:arT t.kind=some 0:=by rcases hk with hk|hk|hk<;>rw[hk]<;>rfl
 have h2:=h.1
 rw[h1] at h2
 simp at h2
 exact h2
theorem Zpy{t:Ty}(h:t.shape=true):t.kind=1∨t.kind=2∨t.kind=5∨t.kind=3∨t.kind=4:=by
 rw[Ty.shape_eq,Bool.and_eq_true] at h
 have h2:=h.1
 split at h2
 ·rename_i n hn
  simp only[arT] at hn
  split at hn
  ·omega
  ·split at hn
   ·omega
   ·cases hn
 ·cases h2
theorem Zfv{t:Ty}(h:t.shape=true):t=natT∨t=listT∨t=Zhd∨∃a b,a.shape=true∧b.shape=true∧(t=Zbe a b∨t=yw a b):=by
 have h0:=h
 rw[Ty.shape_eq,Bool.and_eq_true] at h0
 rcases Zpy h with hk|hk|hk|hk|hk
 ·exact .inl ((Ty.eq_iff _ _).2 ⟨hk,Zar h (by omega)⟩)
 ·exact .inr (.inl ((Ty.eq_iff _ _).2 ⟨hk,Zar h (by omega)⟩))
 ·exact .inr (.inr (.inl ((Ty.eq_iff _ _).2 ⟨hk,Zar h (by omega)⟩)))
 ·obtain ⟨a,b,hab⟩:=Ty.args_two h (.inl hk)
  have:=List.all_eq_true.1 h0.2
  rw[hab] at this
  exact .inr (.inr (.inr ⟨a,b,this a (by simp),this b (by simp),.inl ((Ty.eq_iff _ _).2 ⟨hk,hab⟩)⟩))
 ·obtain ⟨a,b,hab⟩:=Ty.args_two h (.inr hk)
  have:=List.all_eq_true.1 h0.2
  rw[hab] at this
  exact .inr (.inr (.inr ⟨a,b,this a (by simp),this b (by simp),.inr ((Ty.eq_iff _ _).2 ⟨hk,hab⟩)⟩))
theorem Zag(a b:Ty):(Zbe a b).size=1+(a.size+b.size):=by simp[Zbe,Ty.size,Ty.sizes]
theorem wj(a b:Ty):(yw a b).size=1+(a.size+b.size):=by simp[yw,Ty.size,Ty.sizes]
theorem Zc4{t:Ty}(h:t.small):t=natT∨t=listT∨t=Zhd∨∃a b,a.shape=true∧b.shape=true∧a.size=1∧b.size=1∧(t=Zbe a b∨t=yw a b):=by
 obtain⟨h1,h2⟩:=h
 rcases Zfv h1 with h3|h3|h3|⟨a,b,ha,hb,h3⟩
 ·exact .inl h3
 ·exact .inr (.inl h3)
 ·exact .inr (.inr (.inl h3))
 ·have pa:=a.size_pos
  have pb:=b.size_pos
  refine .inr (.inr (.inr ⟨a,b,ha,hb,?_,?_,h3⟩))<;>rcases h3 with rfl|rfl<;>(first|rw[Zag] at h2|rw[wj] at h2)<;>omega
theorem zp{t:Ty}(h:t.shape=true)(h1:t.size=1):t.small:=⟨h,by omega⟩
theorem ze:natT.small:=⟨rfl,by decide⟩
theorem yv:listT.small:=⟨rfl,by decide⟩
theorem zl{g l:List Ty}(h:smalls g)(h1:smalls l):smalls (g++l):=fun t ht=>by
 rcases List.mem_append.1 ht with ht|ht
 ·exact h t ht
 ·exact h1 t ht
theorem zg{t:Ty}{l:List Ty}(h:t.small)(h1:smalls l):smalls (t::l):=fun x hx=>by
 rcases List.mem_cons.1 hx with rfl|hx
 ·exact h
 ·exact h1 x hx
theorem zj:smalls []:=fun t ht=>by cases ht
theorem Zfz{g:List Ty}(h:smalls g){i:Nat}(hi:i<g.length):(at0 g (g.length-1-i)).small:=h _ (Zjg (by omega))
theorem Dk.type0(d:Dk):(d.type 0).1.shape=true∧(d.type 0).1.size=1:=by
 simp only[Dk.type];(repeat' split)<;>exact⟨rfl,rfl⟩
theorem Zfa(d:Dk):∃m,m<3∧Zcm (d.next 3).1=Zii m:=by
 have h:=Dk.next_bd d 3 (by omega)
 refine⟨(d.next 3).1.toNat,by omega,?_⟩
 rw[Zcm,if_pos (by omega)]
theorem Ztk{g:List Ty}{t:Ty}{i:Int}(h:i∈xy g t):∃j:Nat,i=j∧j<g.length∧at0 g (g.length-1-j)=t:=by
 simp only[xy,List.mem_map,List.mem_filter,List.mem_range,decide_eq_true_eq] at h
 obtain⟨j,⟨h1,h2⟩,rfl⟩:=h
 refine⟨j,rfl,h1,?_⟩
 simp only[at0,List.getD_eq_getElem?_getD,h2,Option.getD_some]
theorem Zpb{g:List Ty}{t:Ty}(d:Dk)(h:¬xy g t=[]):∃j:Nat,(xy g t).getD (d.next (xy g t).length).1.toNat 0=j∧j<g.length∧at0 g (g.length-1-j)=t:=by
 have hl:0<(xy g t).length:=List.length_pos_iff.2 h
 have hb:=Dk.next_bd d (xy g t).length (by omega)
 have hlt:(d.next (xy g t).length).1.toNat<(xy g t).length:=by omega
 have:(xy g t).getD (d.next (xy g t).length).1.toNat 0∈xy g t:=by
  rw[List.getD_eq_getElem?_getD,List.getElem?_eq_getElem hlt]
  exact List.getElem_mem hlt
 exact Ztk this
theorem Zpw{g:List Ty}{t:Ty}{i:Nat}(h:Zqb g t=some i):i<g.length∧Zpx g t i=true:=by
 have:=List.find?_some h
 have h2:=List.mem_of_find?_eq_some h
 exact⟨by simpa using h2,this⟩
theorem Zwz{g:List Ty}{t:Ty}{i:Nat}(hg:smalls g)(hi:i<g.length)(h:Zpx g t i=true):∃s,s.shape=true∧s.size=1∧at0 g (g.length-1-i)=yw s t:=by
 simp only[Zpx,Bool.and_eq_true,beq_iff_eq,decide_eq_true_eq] at h
 have hs:=Zfz hg hi
 rcases Zc4 hs with h3|h3|h3|⟨a,b,ha,hb,h1,h2,h3|h3⟩
 ·rw [h3] at h;exact absurd h.1 (by decide)
 ·rw [h3] at h;exact absurd h.1 (by decide)
 ·rw [h3] at h;exact absurd h.1 (by decide)
 ·rw [h3] at h;exact absurd h.1 (by simp[Zbe])
 ·refine ⟨a,ha,h1,?_⟩
  have:=h.2
  rw[h3] at this ⊢
  simp only[yw,Ty.args_mk,Zd4] at this
  rw[this]
abbrev Zvv(rec:MkF)(n:Nat):Prop:=∀d g t,smalls g→t.small→1≤n→(n=1→t.size=1)→Mk n g t (rec d g t).1
theorem Dk.fin_mk{rec:MkF}{n:Nat}{pos:Bool}{d:Dk}{g:List Ty}{t:Ty}(H:Zvv rec n)(hp:pos=true→2≤n)(hg:smalls g)(ht:t.small)(h0:n=0→t.size=1):Mk (n+1) g t (d.fin rec pos g t).1:=by
 rcases Zc4 ht with rfl|rfl|rfl|⟨a,b,ha,hb,h1,h2,rfl|rfl⟩
 ·unfold Dk.fin
  rw[if_pos (show natT.kind=1 from rfl)]
  by_cases hpos:pos=true
  ·have hn:=hp hpos
   have hr:∀d,Mk n g natT (rec d g natT).1:=fun d=>H d g natT hg ze (by omega) (by omega)
   rw[if_pos hpos]
   split
   ·exact .succ n g _ hn (hr _)
   ·split
    ·exact .plus n g _ _ hn (hr _) (hr _)
    ·split
     ·exact .sub n g _ _ hn (hr _) (hr _)
     ·obtain ⟨m,hm,e⟩:=Zfa (d.next 5).2
      simp only[e]
      exact .num n g m hm
  ·rw [if_neg hpos]
   obtain⟨m,hm,e⟩:=Zfa d
   simp only[e]
   exact .num n g m hm
 ·unfold Dk.fin
  rw[if_neg (by decide),if_pos (show listT.kind=2 from rfl)]
  by_cases hpos:pos=true
  ·have hn:=hp hpos
   rw[if_pos hpos]
   split
   ·exact .cons n g _ _ hn (H _ g natT hg ze (by omega) (by omega)) (H _ g listT hg yv (by omega) (by omega))
   ·exact .nil n g
  ·rw [if_neg hpos];exact .nil n g
 ·unfold Dk.fin
  rw[if_neg (by decide),if_neg (by decide),if_neg (by decide),if_neg (by decide)]
  exact .unit n g
 ·unfold Dk.fin
  rw[if_neg (by simp[Zbe]),if_neg (by simp[Zbe]),if_pos (show(Zbe a b).kind=3 from rfl)]
  have:n≠0:=fun h=>by have:=h0 h;rw[Zag] at this;omega
  exact .pair n g a b _ _ h1 h2 (H _ g a hg (zp ha h1) (by omega) fun _=>h1) (H _ g b hg (zp hb h2) (by omega) fun _=>h2)
 ·unfold Dk.fin
  rw[if_neg (by simp[yw]),if_neg (by simp[yw]),if_neg (by simp[yw]),if_pos (show(yw a b).kind=4 from rfl)]
  have:n≠0:=fun h=>by have:=h0 h;rw[wj] at this;omega
  exact .lam n g a b _ h1 h2 (H _ (g++[a]) b (zl hg (zg (zp ha h1) zj)) (zp hb h2) (by omega) fun _=>h2)
theorem Dk.mid_mk{rec:MkF}{n:Nat}{pos:Bool}{d:Dk}{g:List Ty}{t:Ty}(H:Zvv rec n)(hp:pos=true→2≤n)(hg:smalls g)(ht:t.small)(h0:n=0→t.size=1):Mk (n+1) g t (d.mid rec pos g t).1:=by
 unfold Dk.mid Dk.m0 Dk.m1 Dk.m2 Dk.m3 Dk.m4 Dk.m5
 by_cases hpos:pos=true
 ·have hn:=hp hpos
  have hs:=Dk.type0 (d.next 8).2
  have hss:=zp hs.1 hs.2
  rw[if_pos hpos]
  split
  ·exact .app n g t _ _ _ hn hs.1 hs.2 (H _ _ _ (zl hg (zg hss zj)) ht (by omega) (by omega)) (H _ _ _ hg hss (by omega) (by omega))
  ·split
   ·exact .fst n g t _ _ _ hn hs.1 hs.2 (H _ _ _ hg ht (by omega) (by omega)) (H _ _ _ hg hss (by omega) (by omega))
   ·split
    ·obtain ⟨m,hm,e⟩:=Zfa (rec (rec (d.next 8).2 (g++[natT,t]) t).2 g t).2
     simp only[e]
     exact .recu n g t _ _ m hn hm (H _ _ _ (zl hg (zg ze (zg ht zj))) ht (by omega) (by omega)) (H _ _ _ hg ht (by omega) (by omega))
    ·split
     ·exact .fold n g t _ _ _ hn (H _ _ _ (zl hg (zg ze (zg yv (zg ht zj)))) ht (by omega) (by omega)) (H _ _ _ hg ht (by omega) (by omega)) (H _ _ _ hg yv (by omega) (by omega))
     ·split
      ·exact .snd n g t _ _ _ hn hs.1 hs.2 (H _ _ _ hg hss (by omega) (by omega)) (H _ _ _ hg ht (by omega) (by omega))
      ·split
       ·split
        ·rename_i i hi
         obtain⟨h1,h2⟩:=Zpw hi
         obtain⟨s,h3,h4,h5⟩:=Zwz hg h1 h2
         simp only[h5,yw,Ty.args_mk,Zb2]
         exact .ctx n g t s _ hn i h1 h5 h4 (H _ _ _ hg (zp h3 h4) (by omega) (by omega))
        ·exact Dk.fin_mk H hp hg ht h0
       ·exact Dk.fin_mk H hp hg ht h0
 ·rw [if_neg hpos];exact Dk.fin_mk H hp hg ht h0
theorem Dk.gen_mk{rec:MkF}{n:Nat}{pos:Bool}{d:Dk}{g:List Ty}{t:Ty}(H:Zvv rec n)(hp:pos=true→2≤n)(hg:smalls g)(ht:t.small)(h0:n=0→t.size=1):Mk (n+1) g t (d.gen rec pos g t).1:=by
 unfold Dk.gen
 split
 ·exact Dk.mid_mk H hp hg ht h0
 ·rename_i hl
  split
  ·obtain ⟨j,e,h1,h2⟩:=Zpb (d.next 3).2 hl
   simp only[e]
   exact .var n g t j h1 h2
  ·exact Dk.mid_mk H hp hg ht h0
theorem Dk.tm_mk:∀n,Zvv (Dk.tm n) n
 |0=>fun d g t _ _ h _=>by omega
 |n+1=>fun d g t hg ht _ h1=>Dk.gen_mk (Dk.tm_mk n) (by simp) hg ht (by omega)
theorem Zdz:∀m,(Zii m).full=2*(m+1)
 |0=>rfl
 |m+1=>by simp[Zii,Tm.full,Tm.fulls,Zdz m,Ty.size,Ty.sizes];omega
theorem Mk.full{n:Nat}{g:List Ty}{t:Ty}{x:Tm}(h:Mk n g t x):smalls g→t.small→x.full+20≤20*3^n:=by
 have e1:noTy.size=1:=rfl
 have e2:(Ty.mk 0 []).size=1:=rfl
 have p:∀n,1≤3^n:=fun n=>Nat.one_le_pow _ _ (by omega)
 have q:∀n,3^(n+1)=3*3^n:=fun n=>by rw[Nat.pow_succ];omega
 induction h with
 |var n g t i hi h=>intro hg ht;have:=p n;have:=q n;simp[vT,Tm.full,Tm.fulls,e2];omega
 |app n g t s a b hn hs h1 ha hb iha ihb=>
  intro hg ht
  have:=iha (zl hg (zg (zp hs h1) zj)) ht
  have:=ihb hg (zp hs h1)
  have:=p n;have:=q n
  simp[apT,lmT,Tm.full,Tm.fulls,e2,h1];omega
 |fst n g t s a b hn hs h1 ha hb iha ihb=>
  intro hg ht
  have:=iha hg ht
  have:=ihb hg (zp hs h1)
  have:=p n;have:=q n
  simp[nT,Tm.full,Tm.fulls,e2];omega
 |snd n g t s a b hn hs h1 ha hb iha ihb=>
  intro hg ht
  have:=iha hg (zp hs h1)
  have:=ihb hg ht
  have:=p n;have:=q n
  simp[nT,Tm.full,Tm.fulls,e2];omega
 |recu n g t a b m hn hm ha hb iha ihb=>
  intro hg ht
  have:=iha (zl hg (zg ze (zg ht zj))) ht
  have:=ihb hg ht
  have:=ht.2
  have:=p n;have:=q n
  have e3:natT.size=1:=rfl
  simp[hT,lmT,Tm.full,Tm.fulls,e3,Zdz];omega
 |fold n g t a b c hn ha hb hc iha ihb ihc=>
  intro hg ht
  have:=iha (zl hg (zg ze (zg yv (zg ht zj)))) ht
  have:=ihb hg ht
  have:=ihc hg yv
  have:=ht.2
  have:=p n;have:=q n
  have e3:natT.size=1:=rfl
  have e4:listT.size=1:=rfl
  simp[hT,lmT,Tm.full,Tm.fulls,e3,e4];omega
 |ctx n g t s a hn i hi h h1 ha iha=>
  intro hg ht
  have hs:s.shape=true:=by
   have:=Zfz hg hi
   rw[h] at this
   have:=List.all_eq_true.1 ((Bool.and_eq_true _ _).mp ((Ty.shape_eq _).symm.trans this.1)).2 s (by simp[yw])
   exact this
  have:=iha hg (zp hs h1)
  have:=p n;have:=q n
  simp[apT,vT,Tm.full,Tm.fulls,e2];omega
 |succ n g a hn ha iha=>intro hg ht;have:=iha hg ze;have:=p n;have:=q n;simp[sT,Tm.full,Tm.fulls,e2];omega
 |plus n g a b hn ha hb iha ihb=>
  intro hg ht
  have:=iha hg ze
  have:=ihb hg ze
  have:=p n;have:=q n
  have e5:plusT.full≤18:=by decide
  simp[apT,Tm.full,Tm.fulls,e2];omega
 |sub n g a b hn ha hb iha ihb=>
  intro hg ht
  have:=iha hg ze
  have:=ihb hg ze
  have:=p n;have:=q n
  have e5:subT.full≤36:=by decide
  simp[apT,Tm.full,Tm.fulls,e2];omega
 |num n g m hm=>intro hg ht;have:=p n;have:=q n;rw[Zdz];omega
 |cons n g a b hn ha hb iha ihb=>
  intro hg ht
  have:=iha hg ze
  have:=ihb hg yv
  have:=p n;have:=q n
  simp[nT,Tm.full,Tm.fulls,e2];omega
 |nil n g=>intro hg ht;have:=p n;have:=q n;simp[nT,Tm.full,Tm.fulls,e2];omega
 |pair n g s t a b h1 h2 ha hb iha ihb=>
  intro hg ht
  have hs:=List.all_eq_true.1 ((Bool.and_eq_true _ _).mp ((Ty.shape_eq _).symm.trans ht.1)).2
  have:=iha hg (zp (hs s (by simp[Zbe])) h1)
  have:=ihb hg (zp (hs t (by simp[Zbe])) h2)
  have:=p n;have:=q n
  simp[nT,Tm.full,Tm.fulls,e2];omega
 |lam n g s t a h1 h2 ha iha=>
  intro hg ht
  have hs:=List.all_eq_true.1 ((Bool.and_eq_true _ _).mp ((Ty.shape_eq _).symm.trans ht.1)).2
  have:=iha (zl hg (zg (zp (hs s (by simp[yw])) h1) zj)) (zp (hs t (by simp[yw])) h2)
  have:=p n;have:=q n
  simp[lmT,Tm.full,Tm.fulls,h1];omega
 |unit n g=>intro hg ht;have:=p n;have:=q n;simp[nT,Tm.full,Tm.fulls,e2];omega
theorem Zan{k:Int}{a b:Ty}(h:(Ty.mk k [a,b]).shape=true):a.shape=true∧b.shape=true:=by
 have hs:=List.all_eq_true.1 ((Bool.and_eq_true _ _).mp ((Ty.shape_eq _).symm.trans h)).2
 exact⟨hs a (by simp),hs b (by simp)⟩
theorem Mk.ind{P:Nat→List Ty→Ty→Tm→Prop}
 (var:∀n g t (i:Nat),i<g.length→at0 g (g.length-1-i)=t→smalls g→t.small→P (n+1) g t (vT i))
 (app:∀n g t s a b,2≤n→s.shape=true→s.size=1→smalls g→t.small→P n (g++[s]) t a→P n g s b→P (n+1) g t (apT (lmT s a) b))
 (fst:∀n g t s a b,2≤n→s.shape=true→s.size=1→smalls g→t.small→P n g t a→P n g s b→P (n+1) g t (nT 11 [nT 10 [a,b]]))
 (snd:∀n g t s a b,2≤n→s.shape=true→s.size=1→smalls g→t.small→P n g s a→P n g t b→P (n+1) g t (nT 12 [nT 10 [a,b]]))
 (recu:∀n g t a b m,2≤n→m<3→smalls g→t.small→P n (g++[natT,t]) t a→P n g t b→P (n+1) g t (hT 6 t [b,lmT natT (lmT t a),Zii m]))
 (fold:∀n g t a b c,2≤n→smalls g→t.small→P n (g++[natT,listT,t]) t a→P n g t b→P n g listT c→P (n+1) g t (hT 9 t [b,lmT natT (lmT listT (lmT t a)),c]))
 (ctx:∀n g t s a (i:Nat),2≤n→i<g.length→at0 g (g.length-1-i)=yw s t→s.shape=true→s.size=1→smalls g→t.small→P n g s a→P (n+1) g t (apT (vT i) a))
 (succ:∀n g a,2≤n→smalls g→P n g natT a→P (n+1) g natT (sT a))
 (plus:∀n g a b,2≤n→smalls g→P n g natT a→P n g natT b→P (n+1) g natT (apT (apT plusT a) b))
 (sub:∀n g a b,2≤n→smalls g→P n g natT a→P n g natT b→P (n+1) g natT (apT (apT subT a) b))
 (num:∀n g m,m<3→smalls g→P (n+1) g natT (Zii m))
 (cons:∀n g a b,2≤n→smalls g→P n g natT a→P n g listT b→P (n+1) g listT (nT 8 [a,b]))
 (nil:∀n g,smalls g→P (n+1) g listT (nT 7 []))
 (pair:∀n g s t a b,s.shape=true→t.shape=true→s.size=1→t.size=1→1≤n→smalls g→P n g s a→P n g t b→P (n+1) g (Zbe s t) (nT 10 [a,b]))
 (lam:∀n g s t a,s.shape=true→t.shape=true→s.size=1→t.size=1→1≤n→smalls g→P n (g++[s]) t a→P (n+1) g (yw s t) (lmT s a))
 (unit:∀n g,smalls g→P (n+1) g Zhd (nT 13 []))
 {n:Nat} {g:List Ty} {t:Ty} {x:Tm} (h:Mk n g t x):smalls g→t.small→P n g t x:=by
 have one:∀{n g t x},Mk n g t x→1≤n:=fun h=>by cases h<;>omega
 induction h with
 |var n g t i hi h=>exact fun hg ht=>var n g t i hi h hg ht
 |app n g t s a b hn hs h1 ha hb iha ihb=>exact fun hg ht=>app n g t s a b hn hs h1 hg ht (iha (zl hg (zg (zp hs h1) zj)) ht) (ihb hg (zp hs h1))
 |fst n g t s a b hn hs h1 ha hb iha ihb=>exact fun hg ht=>fst n g t s a b hn hs h1 hg ht (iha hg ht) (ihb hg (zp hs h1))
 |snd n g t s a b hn hs h1 ha hb iha ihb=>exact fun hg ht=>snd n g t s a b hn hs h1 hg ht (iha hg (zp hs h1)) (ihb hg ht)
 |recu n g t a b m hn hm ha hb iha ihb=>exact fun hg ht=>recu n g t a b m hn hm hg ht (iha (zl hg (zg ze (zg ht zj))) ht) (ihb hg ht)
 |fold n g t a b c hn ha hb hc iha ihb ihc=>exact fun hg ht=>fold n g t a b c hn hg ht (iha (zl hg (zg ze (zg yv (zg ht zj)))) ht) (ihb hg ht) (ihc hg yv)
 |ctx n g t s a hn i hi h h1 ha iha=>
  intro hg ht
  have hs:s.shape=true:=by
   have:=Zfz hg hi
   rw[h] at this
   exact(Zan this.1).1
  exact ctx n g t s a i hn hi h hs h1 hg ht (iha hg (zp hs h1))
 |succ n g a hn ha iha=>exact fun hg ht=>succ n g a hn hg (iha hg ze)
 |plus n g a b hn ha hb iha ihb=>exact fun hg ht=>plus n g a b hn hg (iha hg ze) (ihb hg ze)
 |sub n g a b hn ha hb iha ihb=>exact fun hg ht=>sub n g a b hn hg (iha hg ze) (ihb hg ze)
 |num n g m hm=>exact fun hg ht=>num n g m hm hg
 |cons n g a b hn ha hb iha ihb=>exact fun hg ht=>cons n g a b hn hg (iha hg ze) (ihb hg yv)
 |nil n g=>exact fun hg ht=>nil n g hg
 |pair n g s t a b h1 h2 ha hb iha ihb=>exact fun hg ht=>have hs:=Zan ht.1;pair n g s t a b hs.1 hs.2 h1 h2 (one ha) hg (iha hg (zp hs.1 h1)) (ihb hg (zp hs.2 h2))
 |lam n g s t a h1 h2 ha iha=>exact fun hg ht=>have hs:=Zan ht.1;lam n g s t a hs.1 hs.2 h1 h2 (one ha) hg (iha (zl hg (zg (zp hs.1 h1) zj)) (zp hs.2 h2))
 |unit n g=>exact fun hg ht=>unit n g hg
@[simp] theorem Zle(a b:Ty):(yw a b).kind=4:=rfl
@[simp] theorem Zli(a b:Ty):(yw a b).args=[a,b]:=rfl
@[simp] theorem Ydh(a b:Ty):(Zbe a b).kind=3:=rfl
@[simp] theorem Yck(a b:Ty):(Zbe a b).args=[a,b]:=rfl
theorem Zxs{t:Ty}(h:t.err=0):okT t=(t,0):=if_pos h
theorem we{t:Ty}(h:t.small):t.err=0:=(Ty.err_iff t).2 ⟨h.1,by have:=h.2;omega⟩
theorem u9{a b:Ty}(ha:a.shape=true)(hb:b.shape=true):(yw a b).shape=true:=by simp[Ty.shape_eq (yw a b),ha,hb,arT]
theorem Zgz{a b:Ty}(ha:a.shape=true)(hb:b.shape=true):(Zbe a b).shape=true:=by simp[Ty.shape_eq (Zbe a b),ha,hb,arT]
theorem Zei{a b:Ty}(ha:a.shape=true)(hb:b.shape=true)(h:a.size+b.size≤60):(yw a b).err=0:=(Ty.err_iff _).2 ⟨u9 ha hb,by rw[wj];omega⟩
theorem Zmk{a b:Ty}(ha:a.shape=true)(hb:b.shape=true)(h:a.size+b.size≤60):(Zbe a b).err=0:=(Ty.err_iff _).2 ⟨Zgz ha hb,by rw[Zag];omega⟩
def Zjz(g:List Ty)(i:Nat):Ty:=at0 g (g.length-1-i)
theorem Zje(g:List Ty)(i:Nat)(h:i<g.length):(vT i).inf g=(Zjz g i,0):=by
 rw[Tm.inf_eq]
 have h1:¬((i:Int)≥(g.length:Int)):=by omega
 simp[vT,h1,Zjz]
theorem Zg0(g:List Ty)(a:Ty):Zjz (g++[a]) 0=a:=by simp[Zjz,at0]
theorem Zln(g:List Ty)(a:Ty)(i:Nat)(h:i<g.length):Zjz (g++[a]) (i+1)=Zjz g i:=by
 have e:g.length+1-1-(i+1)=g.length-1-i:=by omega
 simp only[Zjz,at0,List.length_append,List.length_cons,List.length_nil,Nat.zero_add,e,List.getD_eq_getElem?_getD]
 rw[List.getElem?_append_left (by omega)]
theorem Zlp(g:List Ty)(a:Ty):(vT 0).inf (g++[a])=(a,0):=by
 have:=Zje (g++[a]) 0 (by simp)
 rw[Zg0] at this;exact this
theorem Zq8(g:List Ty)(a b:Ty):(vT 1).inf (g++[a]++[b])=(a,0):=by
 have:=Zje (g++[a]++[b]) 1 (by simp)
 rw[Zln (g++[a]) b 0 (by simp),Zg0] at this;exact this
theorem xn{g:List Ty}{s t:Ty}{x:Tm}(h:x.inf (g++[s])=(t,0))(he:(yw s t).err=0):(lmT s x).inf g=(yw s t,0):=by
 rw[Tm.inf_eq];simp[lmT,Tm.infs,h,Zxs he]
theorem Zbt{g:List Ty}{s t:Ty}{f x:Tm}(hf:f.inf g=(yw s t,0))(hx:x.inf g=(s,0)):(apT f x).inf g=(t,0):=by
 rw[Tm.inf_eq];simp[apT,Tm.infs,hf,hx,wq]
theorem Zi5{g:List Ty}{x:Tm}(h:x.inf g=(natT,0)):(sT x).inf g=(natT,0):=by
 rw[Tm.inf_eq];simp[sT,Tm.infs,h,wq]
theorem Zif(g:List Ty):zT.inf g=(natT,0):=by
 rw[Tm.inf_eq];simp[zT,Tm.infs,wq]
theorem Zml(g:List Ty):∀m,(Zii m).inf g=(natT,0)
 |0=>Zif g
 |m+1=>Zi5 (Zml g m)
theorem Zis{g:List Ty}{t:Ty}{b f x:Tm}(hb:b.inf g=(t,0))(hf:f.inf g=(yw natT (yw t t),0))(hx:x.inf g=(natT,0)):(hT 6 t [b,f,x]).inf g=(t,0):=by
 rw[Tm.inf_eq];simp[hT,Tm.infs,hb,hf,hx,wq]
theorem Zu7{g:List Ty}{t:Ty}{b f x:Tm}(hb:b.inf g=(t,0))(hf:f.inf g=(yw natT (yw listT (yw t t)),0))(hx:x.inf g=(listT,0)):(hT 9 t [b,f,x]).inf g=(t,0):=by
 rw[Tm.inf_eq];simp[hT,Tm.infs,hb,hf,hx,wq]
theorem Zff{g:List Ty}{s t:Ty}{a b:Tm}(ha:a.inf g=(s,0))(hb:b.inf g=(t,0))(he:(Zbe s t).err=0):(nT 10 [a,b]).inf g=(Zbe s t,0):=by
 rw[Tm.inf_eq];simp[nT,Tm.infs,ha,hb,wq,Zxs he]
theorem Yak{g:List Ty}{s t:Ty}{x:Tm}(h:x.inf g=(Zbe s t,0)):(nT 11 [x]).inf g=(s,0):=by
 rw[Tm.inf_eq];simp[nT,Tm.infs,h,wq]
theorem Zz5{g:List Ty}{s t:Ty}{x:Tm}(h:x.inf g=(Zbe s t,0)):(nT 12 [x]).inf g=(t,0):=by
 rw[Tm.inf_eq];simp[nT,Tm.infs,h,wq]
theorem Zvj{g:List Ty}{a b:Tm}(ha:a.inf g=(natT,0))(hb:b.inf g=(listT,0)):(nT 8 [a,b]).inf g=(listT,0):=by
 rw[Tm.inf_eq];simp[nT,Tm.infs,ha,hb,wq]
theorem Zgw{a:Ty}(ha:a.shape=true)(h:a.size≤30):(yw natT a).err=0:=Zei rfl ha (by have:natT.size=1:=rfl;omega)
theorem Zwk(g:List Ty):plusT.inf g=(yw natT (yw natT natT),0):=by
 refine xn (s:=natT) (xn (s:=natT) (Zis (t:=natT) (Zq8 g natT natT) (xn (s:=natT) (xn (s:=natT) (Zi5 (Zlp _ _)) rfl) rfl) (Zlp _ _)) rfl) rfl
theorem Zvs(g:List Ty):predT.inf g=(yw natT natT,0):=by
 refine xn (s:=natT) (Zis (t:=natT) (Zif _) (xn (s:=natT) (xn (s:=natT) (Zq8 _ natT natT) rfl) rfl) (Zlp _ _)) rfl
theorem Zzw(g:List Ty):subT.inf g=(yw natT (yw natT natT),0):=by
 refine xn (s:=natT) (xn (s:=natT) (Zis (t:=natT) (Zq8 g natT natT) (xn (s:=natT) (xn (s:=natT) (Zbt (Zvs _) (Zlp _ _)) rfl) rfl) (Zlp _ _)) rfl) rfl
theorem Mk.inf{n:Nat}{g:List Ty}{t:Ty}{x:Tm}(h:Mk n g t x)(hg:smalls g)(ht:t.small):x.inf g=(t,0):=by
 refine Mk.ind (P:=fun n g t x=>x.inf g=(t,0)) ?_ ?_ ?_ ?_ ?_ ?_ ?_ ?_ ?_ ?_ ?_ ?_ ?_ ?_ ?_ ?_ h hg ht
 ·intro n g t i hi h _ _;rw[Zje g i hi];rw[←h];rfl
 ·intro n g t s a b _ hs h1 _ ht ha hb;exact Zbt (xn ha (Zei hs ht.1 (by have:=ht.2;omega))) hb
 ·intro n g t s a b _ hs h1 _ ht ha hb;exact Yak (Zff ha hb (Zmk ht.1 hs (by have:=ht.2;omega)))
 ·intro n g t s a b _ hs h1 _ ht ha hb;exact Zz5 (Zff ha hb (Zmk hs ht.1 (by have:=ht.2;omega)))
 ·intro n g t a b m _ _ _ ht ha hb
  have h2:=ht.2
  refine Zis hb (xn (xn (by rw[List.append_assoc];exact ha) (Zei ht.1 ht.1 (by omega))) (Zgw (u9 ht.1 ht.1) (by rw[wj];omega))) (Zml g m)
 ·intro n g t a b c _ _ ht ha hb hc
  have h2:=ht.2
  have e1:listT.size=1:=rfl
  refine Zu7 hb (xn (xn (xn (by rw[List.append_assoc,List.append_assoc];exact ha) (Zei ht.1 ht.1 (by omega))) (Zei rfl (u9 ht.1 ht.1) (by rw[wj];omega))) (Zgw (u9 rfl (u9 ht.1 ht.1)) (by rw[wj,wj];omega))) hc
 ·intro n g t s a i _ hi h _ _ _ _ ha;exact Zbt (s:=s) (by rw[Zje g i hi];rw[←h];rfl) ha
 ·intro n g a _ _ ha;exact Zi5 ha
 ·intro n g a b _ _ ha hb;exact Zbt (Zbt (Zwk g) ha) hb
 ·intro n g a b _ _ ha hb;exact Zbt (Zbt (Zzw g) ha) hb
 ·intro n g m _ _;exact Zml g m
 ·intro n g a b _ _ ha hb;exact Zvj ha hb
 ·intro n g _;rw[Tm.inf_eq];simp[nT,Tm.infs,wq]
 ·intro n g s t a b hs ht h1 h2 _ _ ha hb;exact Zff ha hb (Zmk hs ht (by omega))
 ·intro n g s t a hs ht h1 h2 _ _ ha;exact xn ha (Zei hs ht (by omega))
 ·intro n g _;rw[Tm.inf_eq];simp[nT,Tm.infs,wq]
theorem Zkc:(Ty.mk 0 []).isNo=true:=rfl
theorem Zjk{k:Int}{l:List Tm}(hk:arK k=some l.length)(ht:xu k=false)(h:∀x∈l,x.shape=true):(nT k l).shape=true:=by
 have:l.all Tm.shape=true:=List.all_eq_true.2 h
 simp[nT,Tm.shape_eq,Tm.head,hk,ht,Zkc,this]
theorem Zpc{t:Ty}(h1:t.shape=true)(h2:t.size≤64):t.ok=true:=by simp[Ty.ok,h1,h2]
theorem Zoy{k:Int}{s:Ty}{l:List Tm}(hk:arK k=some l.length)(ht:xu k=true)(hs:s.ok=true)(h:∀x∈l,x.shape=true):(hT k s l).shape=true:=by
 have:l.all Tm.shape=true:=List.all_eq_true.2 h
 simp[hT,Tm.shape_eq,Tm.head,hk,ht,hs,this]
theorem Zd3(i:Int)(h:0≤i):(vT i).shape=true:=by
 have:xu 1=false:=rfl
 simp[vT,Tm.shape_eq,Tm.head,arK,this,Zkc,h]
theorem Zf8:∀m,(Zii m).shape=true
 |0=>rfl
 |m+1=>Zjk (k:=5) (l:=[Zii m]) rfl rfl (by simp[Zf8 m])
theorem xv{k:Int}{a b:Tm}(hk:arK k=some 2)(ht:xu k=false)(ha:a.shape=true)(hb:b.shape=true):(nT k [a,b]).shape=true:=Zjk hk ht (by simp[ha,hb])
theorem Zeg{k:Int}{a:Tm}(hk:arK k=some 1)(ht:xu k=false)(ha:a.shape=true):(nT k [a]).shape=true:=Zjk hk ht (by simp[ha])
theorem Zah{s:Ty}{a:Tm}(hs:s.ok=true)(ha:a.shape=true):(lmT s a).shape=true:=Zoy (k:=2) rfl rfl hs (by simp[ha])
theorem Zon{k:Int}{s:Ty}{a b c:Tm}(hk:arK k=some 3)(ht:xu k=true)(hs:s.ok=true)(ha:a.shape=true)(hb:b.shape=true)(hc:c.shape=true):(hT k s [a,b,c]).shape=true:=Zoy hk ht hs (by simp[ha,hb,hc])
theorem Mk.shape{n:Nat}{g:List Ty}{t:Ty}{x:Tm}(h:Mk n g t x)(hg:smalls g)(ht:t.small):x.shape=true:=by
 have ok:∀{t:Ty},t.small→t.ok=true:=fun h=>Zpc h.1 (by have:=h.2;omega)
 refine Mk.ind (P:=fun n g t x=>x.shape=true) ?_ ?_ ?_ ?_ ?_ ?_ ?_ ?_ ?_ ?_ ?_ ?_ ?_ ?_ ?_ ?_ h hg ht
 ·intro n g t i hi h _ _;exact Zd3 _ (by omega)
 ·intro n g t s a b _ hs h1 _ ht ha hb;exact xv (k:=3) rfl rfl (Zah (ok (zp hs h1)) ha) hb
 ·intro n g t s a b _ hs h1 _ ht ha hb;exact Zeg rfl rfl (xv rfl rfl ha hb)
 ·intro n g t s a b _ hs h1 _ ht ha hb;exact Zeg rfl rfl (xv rfl rfl ha hb)
 ·intro n g t a b m _ _ _ ht ha hb;exact Zon rfl rfl (ok ht) hb (Zah rfl (Zah (ok ht) ha)) (Zf8 m)
 ·intro n g t a b c _ _ ht ha hb hc;exact Zon rfl rfl (ok ht) hb (Zah rfl (Zah rfl (Zah (ok ht) ha))) hc
 ·intro n g t s a i _ hi h _ _ _ _ ha;exact xv (k:=3) rfl rfl (Zd3 _ (by omega)) ha
 ·intro n g a _ _ ha;exact Zeg (k:=5) rfl rfl ha
 ·intro n g a b _ _ ha hb;exact xv (k:=3) rfl rfl (xv (k:=3) rfl rfl rfl ha) hb
 ·intro n g a b _ _ ha hb;exact xv (k:=3) rfl rfl (xv (k:=3) rfl rfl rfl ha) hb
 ·intro n g m _ _;exact Zf8 m
 ·intro n g a b _ _ ha hb;exact xv rfl rfl ha hb
 ·intro n g _;rfl
 ·intro n g s t a b hs ht h1 h2 _ _ ha hb;exact xv rfl rfl ha hb
 ·intro n g s t a hs ht h1 h2 _ _ ha;exact Zah (ok (zp hs h1)) ha
 ·intro n g _;rfl
def s1:Nat→Nat
 |0=>3|1=>3|2=>3|3=>24|n+4=>3*s1 (n+3)+4
def s3:Nat→Nat
 |0=>7|1=>7|2=>7|3=>24|n+4=>3*s1 (n+3)+4
theorem Yas:∀n,3≤n→24≤s1 n
 |0,h=>by omega
 |1,h=>by omega
 |2,h=>by omega
 |3,_=>by decide
 |n+4,_=>by have:=Yas (n+3) (by omega);simp only[s1];omega
theorem Ydn:∀n,3≤n→s3 n=s1 n
 |0,h=>by omega
 |1,h=>by omega
 |2,h=>by omega
 |3,_=>rfl
 |n+4,_=>rfl
theorem Zb9(n:Nat)(hn:2≤n):3*s1 n+4≤s1 (n+1)∧2*s1 n+18≤s1 (n+1)∧2*s3 n+s1 n+4≤s3 (n+1)∧s1 (n+1)≤s3 (n+1)∧3≤s1 n∧s1 n≤s3 n∧2*s3 n+6≤s3 (n+1)∧s3 n+s1 n+2≤s3 (n+1):=by
 match n,hn with
 |2,_=>decide
 |n+3,_=>
  have h1:=Yas (n+3) (by omega)
  have h2:=Ydn (n+3) (by omega)
  have h3:s1 (n+3+1)=3*s1 (n+3)+4:=rfl
  have h4:s3 (n+3+1)=3*s1 (n+3)+4:=rfl
  omega
theorem Zuc(n:Nat):3≤s1 n∧s1 n≤s3 n∧7≤s3 n:=by
 match n with
 |0=>decide
 |1=>decide
 |2=>decide
 |n+3=>have h1:=Yas (n+3) (by omega);have h2:=Ydn (n+3) (by omega);omega
theorem Zx4(n:Nat)(hn:1≤n):2*s1 n+1≤s3 (n+1):=by
 match n,hn with
 |1,_=>decide
 |n+2,_=>have:=Zb9 (n+2) (by omega);have:=Zuc (n+2);omega
theorem Zg7:∀m,(Zii m).size=m+1
 |0=>rfl
 |m+1=>by simp[Zii,Tm.size,Tm.sizes,Zg7 m];omega
theorem Mk.size{n:Nat}{g:List Ty}{t:Ty}{x:Tm}(h:Mk n g t x)(hg:smalls g)(ht:t.small):x.size≤s3 n∧(t.size=1→x.size≤s1 n):=by
 have e1:natT.size=1:=rfl
 have e2:listT.size=1:=rfl
 refine Mk.ind (P:=fun n g t x=>x.size≤s3 n∧(t.size=1→x.size≤s1 n)) ?_ ?_ ?_ ?_ ?_ ?_ ?_ ?_ ?_ ?_ ?_ ?_ ?_ ?_ ?_ ?_ h hg ht
 ·intro n g t i hi h _ _;have:=Zuc (n+1);simp[vT,Tm.size,Tm.sizes];omega
 ·intro n g t s a b hn hs h1 _ ht ha hb;have:=Zb9 n hn;have:=hb.2 h1;simp[apT,lmT,Tm.size,Tm.sizes];omega
 ·intro n g t s a b hn hs h1 _ ht ha hb;have:=Zb9 n hn;have:=hb.2 h1;simp[nT,Tm.size,Tm.sizes];omega
 ·intro n g t s a b hn hs h1 _ ht ha hb;have:=Zb9 n hn;have:=ha.2 h1;simp[nT,Tm.size,Tm.sizes];omega
 ·intro n g t a b m hn hm _ ht ha hb;have:=Zb9 n hn;simp[hT,lmT,Tm.size,Tm.sizes,Zg7];omega
 ·intro n g t a b c hn _ ht ha hb hc;have:=Zb9 n hn;have:=hc.2 e2;simp[hT,lmT,Tm.size,Tm.sizes];omega
 ·intro n g t s a i hn hi h _ h1 _ _ ha;have:=Zb9 n hn;have:=ha.2 h1;simp[apT,vT,Tm.size,Tm.sizes];omega
 ·intro n g a hn _ ha;have:=Zb9 n hn;have:=ha.2 e1;simp[sT,Tm.size,Tm.sizes];omega
 ·intro n g a b hn _ ha hb;have:=Zb9 n hn;have:=ha.2 e1;have:=hb.2 e1;have:plusT.size=9:=rfl;simp[apT,Tm.size,Tm.sizes];omega
 ·intro n g a b hn _ ha hb;have:=Zb9 n hn;have:=ha.2 e1;have:=hb.2 e1;have:subT.size=16:=rfl;simp[apT,Tm.size,Tm.sizes];omega
 ·intro n g m hm _;have:=Zuc (n+1);rw[Zg7];omega
 ·intro n g a b hn _ ha hb;have:=Zb9 n hn;have:=ha.2 e1;have:=hb.2 e2;simp[nT,Tm.size,Tm.sizes];omega
 ·intro n g _;have:=Zuc (n+1);simp[nT,Tm.size,Tm.sizes];omega
 ·intro n g s t a b hs ht h1 h2 hn _ ha hb;have:=Zx4 n hn;have:=ha.2 h1;have:=hb.2 h2;rw[Zag];simp[nT,Tm.size,Tm.sizes];omega
 ·intro n g s t a hs ht h1 h2 hn _ ha;have:=Zx4 n hn;have:=ha.2 h2;rw[wj];simp[lmT,Tm.size,Tm.sizes];omega
 ·intro n g _;have:=Zuc (n+1);simp[nT,Tm.size,Tm.sizes];omega
def c1:Nat→Nat
 |0=>1|1=>1|2=>1|n+3=>3*c1 (n+2)
def c3:Nat→Nat
 |0=>1|1=>1|2=>2|n+3=>2*c3 (n+2)+c1 (n+2)
theorem Zvx(at_ b k i:Int)(h:Ty)(xs:List Tm)(hk:k≠1):cnt at_ ((Tm.mk k i h xs).vars b)=(xs.map fun x=>cnt at_ (x.vars (up k b))).sum:=by
 rw[Tm.vars_eq]
 simp only[Tm.kind_mk,Tm.args_mk,hk,if_false,List.nil_append]
 induction xs with
 |nil=>rfl
 |cons x l ih=>simp only[List.flatMap_cons,vm,List.map_cons,List.sum_cons,ih]
theorem Za1(t:Tm):∀(g:List Ty) (b:Int) (B:Int),(t.inf g).2=0→t.shape=true→(g.length:Int)+t.size≤B→∀p∈t.vars b,p.1<B:=by
 induction t using Tm.ind with
 |h t ih=>
  intro g b B h hs hB p hp
  rw[Tm.inf_eq] at h
  have hsz:=t.size_eq
  rw[t.vars_eq,List.mem_append] at hp
  by_cases h1:t.kind=1
  ·have hargs:t.args=[]:=by
    have:=Zcy hs
    rw[h1] at this
    exact List.eq_nil_of_length_eq_zero (Option.some.inj this).symm
   rw[if_pos h1] at h hp
   simp only[hargs,List.flatMap_nil,List.not_mem_nil,or_false,List.mem_cons,or_false] at hp
   subst hp
   by_cases h2:t.index≥(g.length:Int)
   ·rw [if_pos h2] at h;exact absurd h (by simp)
   ·have:=t.size_pos;simp only;omega
  ·rw [if_neg h1] at h hp
   simp only[List.not_mem_nil,false_or] at hp
   obtain⟨x,hx,hp⟩:=List.mem_flatMap.1 hp
   have hxs:=zb Tm.size hx
   by_cases h2:t.kind=2
   ·rw [if_pos h2] at h
    by_cases h3:(Tm.infs (g++[t.ty]) t.args).2=0
    ·exact ih x hx (g++[t.ty]) _ B (Tm.infs_all _ _ h3 x hx) (zd hs x hx) (by simp;omega) p hp
    ·rw [if_pos h3] at h;exact absurd h h3
   ·rw [if_neg h2] at h
    by_cases h3:(Tm.infs g t.args).2=0
    ·exact ih x hx g _ B (Tm.infs_all _ _ h3 x hx) (zd hs x hx) (by omega) p hp
    ·rw [if_pos h3] at h;exact absurd h h3
theorem vg{g:Int→Int→Tm}{b:Int}{t:Tm}(h:t.kind=1):t.re g b=g t.index b:=by rw[Tm.re_eq,if_pos h]
theorem y8{g:Int→Int→Tm}{b:Int}{t:Tm}(h:t.kind≠1):t.re g b= .mk t.kind t.index t.ty (t.args.map (Tm.re g (up t.kind b))):=by rw[Tm.re_eq,if_neg h]
theorem um{t:Tm}(hs:t.shape=true)(h:t.kind=1):t.args=[]:=by
 have:=Zcy hs
 rw[h] at this
 exact List.eq_nil_of_length_eq_zero (Option.some.inj this).symm
theorem vt{t:Tm}(hs:t.shape=true)(h:t.kind=1)(b:Int):t.vars b=[(t.index,b)]:=by rw[t.vars_eq,if_pos h,um hs h];rfl
theorem uz{t:Tm}(h:t.kind≠1)(b:Int):t.vars b=t.args.flatMap (Tm.vars (up t.kind b)):=by rw[t.vars_eq,if_neg h];rfl
theorem Zdb{t:Tm}(h:t.kind≠1){b:Int}{x:Tm}(hx:x∈t.args){p:Int×Int}(hp:p∈x.vars (up t.kind b)):p∈t.vars b:=by
 rw[uz h];exact List.mem_flatMap.2 ⟨x,hx,hp⟩
theorem Znu(g:Int→Int→Tm)(t:Tm):∀b,t.shape=true→(∀p∈t.vars b,(g p.1 p.2).shape=true)→(t.re g b).shape=true:=by
 induction t using Tm.ind with
 |h t ih=>
  intro b hs hg
  by_cases h1:t.kind=1
  ·rw [vg h1];exact hg (t.index,b) (by rw[vt hs h1];simp)
  ·rw [y8 h1]
   have hs0:=hs
   rw[Tm.shape_eq,Bool.and_eq_true] at hs ⊢
   refine⟨?_,?_⟩
   ·have:=hs.1
    simp only[Tm.head,Tm.kind_mk,Tm.args_mk,Tm.index_mk,Tm.ty_mk,List.length_map] at this ⊢
    exact this
   ·simp only[Tm.args_mk]
    refine List.all_eq_true.2 fun y hy=> ?_
    obtain⟨x,hx,rfl⟩:=List.mem_map.1 hy
    exact ih x hx _ (List.all_eq_true.1 hs.2 x hx) fun p hp=>hg p (Zdb h1 hx hp)
theorem Zel{fr by_:Int}{t:Tm}(b:Int)(hs:t.shape=true)(hb:0≤by_):(t.re (zq fr by_) b).shape=true:=
 Znu _ t b hs fun p hp=>by
  have:=t.vars_nonneg hs b p hp
  simp only[zq];exact Zd3 _ (by split<;>omega)
theorem Zge(fr by_:Int)(t:Tm):∀b,t.shape=true→(t.re (zq fr by_) b).size=t.size:=by
 induction t using Tm.ind with
 |h t ih=>
  intro b hs
  by_cases h1:t.kind=1
  ·rw [vg h1,t.size_eq,um hs h1];simp[zq,Tm.size,Tm.sizes]
  ·rw [y8 h1,t.size_eq,Tm.size_eq]
   simp only[Tm.args_mk,List.map_map]
   congr 2
   exact List.map_congr_left fun x hx=>ih x hx _ (zd hs x hx)
theorem Zd6{at_:Int}{s t:Tm}(b:Int)(hs:s.shape=true)(ht:t.shape=true)(hb:0≤b)(ha:0≤at_)(hv:∀p∈t.vars b,0≤p.2):(t.re (y5 at_ s) b).shape=true:=
 Znu _ t b ht fun p hp=>by
  have:=t.vars_nonneg ht b p hp
  have:=hv p hp
  simp only[y5];split
  ·exact Zel 0 hs (by omega)
  ·exact Zd3 _ (by split<;>omega)
theorem uj(t:Tm):∀b:Int,∀p∈t.vars b,b≤p.2:=by
 induction t using Tm.ind with
 |h t ih=>
  intro b p hp
  rw[t.vars_eq,List.mem_append] at hp
  rcases hp with hp|hp
  ·split at hp
   ·simp at hp;subst hp;exact Int.le_refl _
   ·cases hp
  ·obtain ⟨x,hx,hp⟩:=List.mem_flatMap.1 hp
   have:=ih x hx _ p hp
   have:b≤up t.kind b:=by simp only[up];split<;>omega
   omega
theorem Zfd(at_:Int)(s t:Tm)(hs:s.shape=true):∀b,t.shape=true→(t.re (y5 at_ s) b).size=t.size+cnt at_ (t.vars b)*(s.size-1):=by
 have hp:=s.size_pos
 induction t using Tm.ind with
 |h t ih=>
  intro b ht
  by_cases h1:t.kind=1
  ·rw [vg h1,vt ht h1,Zbs,t.size_eq,um ht h1]
   simp only[y5]
   split
   ·rw [Zge _ _ _ _ hs];simp;omega
   ·simp [Tm.size,Tm.sizes]
  ·rw [y8 h1,t.size_eq,Tm.size_eq,uz h1]
   simp only[Tm.args_mk,List.map_map]
   have:∀l:List Tm,(∀x∈l,x∈t.args)→(l.map (Tm.size∘Tm.re (y5 at_ s) (up t.kind b))).sum=(l.map Tm.size).sum+cnt at_ (l.flatMap (Tm.vars (up t.kind b)))*(s.size-1):=by
    intro l
    induction l with
    |nil=>intro _;simp[cnt]
    |cons x l ihl=>
     intro hl
     have h2:=ih x (hl x (by simp)) (up t.kind b) (zd ht x (hl x (by simp)))
     have h3:=ihl fun y hy=>hl y (by simp[hy])
     simp only[List.map_cons,List.sum_cons,List.flatMap_cons,vm,Function.comp_apply,h2,h3,Nat.add_mul]
     omega
   rw[this t.args fun x hx=>hx]
   omega
theorem Zw5{g h:List Ty}{i:Nat}(hi:i<g.length):at0 (g++h) i=at0 g i:=by
 simp only[at0,List.getD_eq_getElem?_getD,List.getElem?_append_left hi]
theorem Zrq{g h:List Ty}{i:Nat}(hi:g.length≤i):at0 (g++h) i=at0 h (i-g.length):=by
 simp only[at0,List.getD_eq_getElem?_getD,List.getElem?_append_right hi]
theorem xp{g h:List Ty}{i:Nat}(hi:i<h.length):Zjz (g++h) i=Zjz h i:=by
 simp only[Zjz,List.length_append]
 rw[Zrq (by omega)]
 congr 1;omega
theorem Zab{g h:List Ty}{i:Nat}(hi:h.length≤i)(hl:i<(g++h).length):Zjz (g++h) i=Zjz g (i-h.length):=by
 simp only[Zjz,List.length_append] at hl ⊢
 rw[Zw5 (by omega)]
 congr 1;omega
theorem xz(g:List Ty)(i:Int)(h0:0≤i):(vT i).inf g=if i≥(g.length:Int) then(noTy,6) else(Zjz g i.toNat,0):=by
 rw[Tm.inf_eq];rfl
theorem Zhz{t:Tm}(hs:t.shape=true)(h:t.kind=1):t=vT t.index:=by
 refine(Tm.eq_iff _ _).2 ⟨h,rfl,?_,um hs h⟩
 rw[Tm.shape_eq,Bool.and_eq_true] at hs
 have h1:=hs.1
 simp only[Tm.head,Bool.and_eq_true,h] at h1
 have h2:=h1.2
 have:xu 1=false:=rfl
 rw[this,cond_false] at h2
 simp only[Ty.isNo,Bool.and_eq_true,beq_iff_eq] at h2
 exact(Ty.eq_iff _ _).2 ⟨h2.1,List.eq_nil_of_length_eq_zero h2.2⟩
theorem Zhv{f:Tm→Tm}{g g':List Ty}:∀(l:List Tm),(∀x∈l,(f x).inf g'=x.inf g)→Tm.infs g' (l.map f)=Tm.infs g l:=by
 intro l
 induction l with
 |nil=>intro _;rfl
 |cons x l ih=>
  intro h
  simp only[List.map_cons,Tm.infs,h x (by simp),ih fun y hy=>h y (by simp[hy])]
theorem Zx6(G:Int→Int→Tm)(t:Tm):∀(g g' h:List Ty) (b:Int),t.shape=true→
 (∀(i:Int) (h':List Ty) (b':Int),0≤i→(b'-b=h'.length-h.length)→h.length≤h'.length→(∃e,h'=h++e)→(G i b').inf (g'++h')=(vT i).inf (g++h'))→
 (t.re G b).inf (g'++h)=t.inf (g++h):=by
 induction t using Tm.ind with
 |h t ih=>
  intro g g' h b hs hG
  by_cases h1:t.kind=1
  ·rw [vg h1]
   have:=hG t.index h b (Zbg hs).1 (by omega) (by omega) ⟨[],by simp⟩
   rw[this,←Zhz hs h1]
  ·rw [y8 h1,Tm.inf_eq,Tm.inf_eq (t:=t)]
   simp only[Tm.kind_mk,Tm.ty_mk,Tm.args_mk,h1,if_false]
   by_cases h2:t.kind=2
   ·have e:up t.kind b=b+1:=if_pos h2
    have:Tm.infs (g'++h++[t.ty]) (t.args.map (Tm.re G (up t.kind b)))=Tm.infs (g++h++[t.ty]) t.args:=by
     refine Zhv t.args fun x hx=> ?_
     rw[List.append_assoc,List.append_assoc]
     refine ih x hx g g' (h++[t.ty]) _ (zd hs x hx) fun i h' b' hi hb hl he=>hG i h' b' hi ?_ ?_ ?_
     ·rw [e] at hb;simp at hb;omega
     ·simp at hl;omega
     ·obtain ⟨e',he'⟩:=he;exact⟨[t.ty]++e',by rw[he',List.append_assoc]⟩
    simp only[h2,if_true,this]
    rw[←h2,this]
   ·have e:up t.kind b=b:=if_neg h2
    have:Tm.infs (g'++h) (t.args.map (Tm.re G (up t.kind b)))=Tm.infs (g++h) t.args:=Zhv t.args fun x hx=>ih x hx g g' h _ (zd hs x hx) (by rw[e];exact hG)
    simp only[h2,if_false,this]
theorem Zi8(t:Tm)(g m h:List Ty)(fr b:Int)(hs:t.shape=true)(hh:(h.length:Int)=fr+b):(t.re (zq fr m.length) b).inf (g++m++h)=t.inf (g++h):=by
 refine Zx6 _ t g (g++m) h b hs fun i h' b' hi hb hl _=> ?_
 have hlen:(h'.length:Int)=fr+b':=by omega
 show(vT (if i-b'≥fr then i+m.length else i)).inf _=_
 by_cases hc:i-b'≥fr
 ·rw [if_pos hc,xz _ _ (by omega),xz _ _ hi]
  simp only[List.length_append]
  by_cases hr:i≥((g.length+h'.length:Nat):Int)
  ·rw [if_pos (by omega),if_pos hr]
  ·rw [if_neg (by omega),if_neg hr]
   have e1:(i+(m.length:Int)).toNat=i.toNat+m.length:=by omega
   rw[Zab (by omega) (by simp;omega),Zab (by omega) (by simp;omega),Zab (by omega) (by simp;omega)]
   congr 2;omega
 ·rw [if_neg hc,xz _ _ hi,xz _ _ hi]
  simp only[List.length_append]
  rw[if_neg (by omega),if_neg (by omega),xp (by omega),xp (by omega)]
theorem Zmi(t s:Tm)(g h:List Ty)(σ:Ty)(at_ b:Int)(ht:t.shape=true)(hs:s.shape=true)(hh:(h.length:Int)=at_+b)(hσ:s.inf g=(σ,0)):(t.re (y5 at_ s) b).inf (g++h)=t.inf (g++[σ]++h):=by
 refine Zx6 _ t (g++[σ]) g h b ht fun i h' b' hi hb hl _=> ?_
 have hlen:(h'.length:Int)=at_+b':=by omega
 simp only[y5]
 by_cases hc:i-b'=at_
 ·rw [if_pos hc]
  have e:=Zi8 s g h' [] 0 0 hs rfl
  simp only[List.append_nil] at e
  rw[←hlen,e,hσ,xz _ _ hi]
  simp only[List.length_append,List.length_cons,List.length_nil]
  rw[if_neg (by omega),Zab (by omega) (by simp;omega)]
  rw[show i.toNat-h'.length=0 by omega,Zg0]
 ·rw [if_neg hc]
  by_cases hg:i-b'>at_
  ·rw [if_pos hg]
   show(vT (i-1)).inf _=_
   rw[xz _ _ (by omega),xz _ _ hi]
   simp only[List.length_append,List.length_cons,List.length_nil]
   by_cases hr:i≥((g.length+(0+1)+h'.length:Nat):Int)
   ·rw [if_pos (by omega),if_pos hr]
   ·rw [if_neg (by omega),if_neg hr,Zab (by omega) (by simp;omega),Zab (by omega) (by simp;omega)]
    obtain⟨k,hk⟩:∃k,i.toNat-h'.length=k+1:=⟨i.toNat-h'.length-1,by omega⟩
    rw[hk,Zln g σ k (by omega)]
    congr 2;omega
  ·rw [if_neg hg]
   show(vT i).inf _=_
   rw[xz _ _ hi,xz _ _ hi]
   simp only[List.length_append,List.length_cons,List.length_nil]
   rw[if_neg (by omega),if_neg (by omega),xp (by omega),xp (by omega)]
theorem Zg4{t:Tm}{g:List Ty}(h:(t.inf g).2=0)(hs:t.shape=true)(hb:g.length+t.size≤536870912):t.near=true:=
 List.all_eq_true.2 fun p hp=>by
  have:=Za1 t g 0 536870912 h hs (by omega) p hp
  simp;omega
theorem Tm.err_iff(t:Tm):t.err=0↔t.shape=true∧t.size≤4096:=by
 simp only[Tm.err]
 cases t.shape
 ·simp
 ·by_cases h:t.size>4096
  ·simp [h]
  ·simp [h];omega
theorem Zaa(fr by_:Int)(t:Tm):∀b,t.shape=true→(t.re (zq fr by_) b).full=t.full:=by
 induction t using Tm.ind with
 |h t ih=>
  intro b hs
  by_cases h1:t.kind=1
  ·rw [vg h1]
   conv=>rhs;rw[Zhz hs h1]
   simp[zq,vT,Tm.full,Tm.fulls]
  ·rw [y8 h1,t.full_eq,Tm.full_eq]
   simp only[Tm.args_mk,Tm.ty_mk,List.map_map]
   congr 2
   exact List.map_congr_left fun x hx=>ih x hx _ (zd hs x hx)
theorem Zwx(at_:Int)(s t:Tm)(hs:s.shape=true):∀b,t.shape=true→(t.re (y5 at_ s) b).full≤t.full+cnt at_ (t.vars b)*s.full:=by
 induction t using Tm.ind with
 |h t ih=>
  intro b ht
  by_cases h1:t.kind=1
  ·rw [vg h1,vt ht h1,Zbs]
   have e:t.full=2:=by rw[Zhz ht h1];rfl
   simp only[y5]
   split
   ·rw [Zaa _ _ _ _ hs];omega
   ·rw [e];simp[Tm.full,Tm.fulls,Ty.size,Ty.sizes]
  ·rw [y8 h1,t.full_eq,Tm.full_eq,uz h1]
   simp only[Tm.args_mk,Tm.ty_mk,List.map_map]
   have:∀l:List Tm,(∀x∈l,x∈t.args)→(l.map (Tm.full∘Tm.re (y5 at_ s) (up t.kind b))).sum≤(l.map Tm.full).sum+cnt at_ (l.flatMap (Tm.vars (up t.kind b)))*s.full:=by
    intro l
    induction l with
    |nil=>intro _;simp
    |cons x l ihl=>
     intro hl
     have h2:=ih x (hl x (by simp)) (up t.kind b) (zd ht x (hl x (by simp)))
     have h3:=ihl fun y hy=>hl y (by simp[hy])
     simp only[List.map_cons,List.sum_cons,List.flatMap_cons,vm,Function.comp_apply,Nat.add_mul]
     omega
   have:=this t.args fun x hx=>hx
   omega
theorem Dk.type1(d:Dk):(d.type 1).1.small:=by
 have e:=Dk.type_eq 1 d
 rw[show(1:Int).toNat=1 from rfl,show((1:Int)-1).toNat=0 from rfl] at e
 have h1:=Dk.type0 (d.next 7).2
 have h2:=Dk.type0 ((d.next 7).2.type 0).2
 rw[e]
 generalize ((d.next 7).2.type 0).1=a at*
 generalize (((d.next 7).2.type 0).2.type 0).1=b at*
 split
 ·split
  ·exact ⟨Zgz h1.1 h2.1,show(Zbe a b).size≤3 by rw[Zag];omega⟩
  ·exact ⟨u9 h1.1 h2.1,show(yw a b).size≤3 by rw[wj];omega⟩
 ·split
  ·exact ⟨rfl,show(Ty.mk 2 []).size≤3 by decide⟩
  ·split
   ·exact ⟨rfl,show(Ty.mk 5 []).size≤3 by decide⟩
   ·exact ⟨rfl,show(Ty.mk 1 []).size≤3 by decide⟩
theorem Dk.types_smalls:∀(n:Nat) (d:Dk),smalls (d.types n).1
 |0,d=>zj
 |n+1,d=>zg (Dk.type1 d) (Dk.types_smalls n _)
theorem Dk.ctx_smalls(d:Dk):smalls d.ctx.1:=Dk.types_smalls _ _
theorem Dk.ctx_len(d:Dk):d.ctx.1.length≤3:=by
 have:=Dk.next_bd d 4 (by omega)
 simp only[Dk.ctx,Dk.types_len];omega
theorem Dk.ctx_ok{d:Dk}(h:d.ok):d.ctx.2.ok:=Dk.types_ok _ _ (Dk.next_ok h 4)
def Zau(g:List Ty)(t:Tm):Ty×Int:=if t.err≠0 then(noTy,t.err) else t.inf g
def yy(g:List Ty)(t:Tm):Ty×Int:=if y6 g≠0 then(noTy,y6 g) else Zau g t
theorem Zqw{g:List Ty}(h:smalls g)(hl:g.length≤16):y6 g=0:=by
 unfold y6
 rw[if_neg (by omega)]
 exact Zd5 g fun j hj _=>we (h _ (List.getElem_mem hj))
theorem Ze1:∀{g:List Ty},wy g=0→∀x∈g,x.err=0
 |[],_,x,hx=>by cases hx
 |t::l,h,x,hx=>by
  simp only[wy] at h
  by_cases h1:t.err=0
  ·simp only[h1,ne_eq,not_true_eq_false,if_false] at h
   rcases List.mem_cons.1 hx with rfl|hx
   ·exact h1
   ·exact Ze1 h x hx
  ·rw [if_pos h1] at h;exact absurd h h1
theorem vj{g:List Ty}(h:y6 g=0):g.length≤16∧∀x∈g,x.err=0:=by
 unfold y6 at h
 by_cases h1:g.length>16
 ·rw [if_pos h1] at h;exact absurd h (by decide)
 ·rw [if_neg h1] at h;exact⟨by omega,Ze1 h⟩
theorem Mk.err{n:Nat}{g:List Ty}{t:Ty}{x:Tm}(h:Mk n g t x)(hg:smalls g)(ht:t.small)(hn:n≤5):x.err=0:=by
 refine(Tm.err_iff x).2 ⟨h.shape hg ht,?_⟩
 have:=(h.size hg ht).1
 have:s3 n≤232:=by
  match n,hn with
  |0,_=>decide
  |1,_=>decide
  |2,_=>decide
  |3,_=>decide
  |4,_=>decide
  |5,_=>decide
 omega
theorem Mk.small_size{n:Nat}{g:List Ty}{t:Ty}{x:Tm}(h:Mk n g t x)(hg:smalls g)(ht:t.small)(hn:n≤5):x.size≤232:=by
 have:=(h.size hg ht).1
 have:s3 n≤232:=by
  match n,hn with
  |0,_=>decide
  |1,_=>decide
  |2,_=>decide
  |3,_=>decide
  |4,_=>decide
  |5,_=>decide
 omega
theorem Mk.near{n:Nat}{g:List Ty}{t:Ty}{x:Tm}(h:Mk n g t x)(hg:smalls g)(ht:t.small)(hn:n≤5)(hl:g.length≤100000):x.near=true:=
 Zg4 (by rw[h.inf hg ht]) (h.shape hg ht) (by have:=h.small_size hg ht hn;omega)
def ofT(t:Ty):Sz:=⟨t,t.num⟩
def zSz:Sz:=⟨noTy,0⟩
def plainK(k:Int):List Int:=if k=4 then [1] else if k=5 then [1,1] else if k=7 then [2] else if k=8 then [2,1,2] else if k=13 then [5] else []
def joinS(k:Int)(a b:Sz):Sz×Int:=if 1+a.nodes+b.nodes>64 then(zSz,4) else(⟨.mk k [a.ty,b.ty],1+a.nodes+b.nodes⟩,0)
def funs(r:Ty)(l:List Ty):Ty:=l.foldr yw r
def stepT(t:Tm):Ty:=if t.kind=9 then funs t.ty [natT,listT,t.ty] else funs t.ty [natT,t.ty]
def pad3:List Ty→List V
 |[]=>zSz.view++zSz.view++zSz.view
 |[a]=>(ofT a).view++zSz.view++zSz.view
 |[a,b]=>(ofT a).view++(ofT b).view++zSz.view
 |a::b::c::_=>(ofT a).view++(ofT b).view++(ofT c).view
theorem Mk.weak{n:Nat}{g:List Ty}{t:Ty}{x:Tm}(m:List Ty)(h:Mk n g t x):Mk n (m++g) t x:=by
 induction h with
 |var n g t i hi h=>exact .var n _ t i (by simp;omega) ((xp hi).trans h)
 |app n g t s a b hn hs h1 _ _ iha ihb=>exact .app n _ t s a b hn hs h1 (by rw[List.append_assoc];exact iha) ihb
 |fst n g t s a b hn hs h1 _ _ iha ihb=>exact .fst n _ t s a b hn hs h1 iha ihb
 |snd n g t s a b hn hs h1 _ _ iha ihb=>exact .snd n _ t s a b hn hs h1 iha ihb
 |recu n g t a b m' hn hm _ _ iha ihb=>exact .recu n _ t a b m' hn hm (by rw[List.append_assoc];exact iha) ihb
 |fold n g t a b c hn _ _ _ iha ihb ihc=>exact .fold n _ t a b c hn (by rw[List.append_assoc];exact iha) ihb ihc
 |ctx n g t s a hn i hi h h1 _ iha=>exact .ctx n _ t s a hn i (by simp;omega) ((xp hi).trans h) h1 iha
 |succ n g a hn _ iha=>exact .succ n _ a hn iha
 |plus n g a b hn _ _ iha ihb=>exact .plus n _ a b hn iha ihb
 |sub n g a b hn _ _ iha ihb=>exact .sub n _ a b hn iha ihb
 |num n g m' hm=>exact .num n _ m' hm
 |cons n g a b hn _ _ iha ihb=>exact .cons n _ a b hn iha ihb
 |nil n g=>exact .nil n _
 |pair n g s t a b h1 h2 _ _ iha ihb=>exact .pair n _ s t a b h1 h2 iha ihb
 |lam n g s t a h1 h2 _ iha=>exact .lam n _ s t a h1 h2 (by rw[List.append_assoc];exact iha)
 |unit n g=>exact .unit n _
theorem Zw7{t:Ty}(h:t.small):t.ok=true:=Zpc h.1 (by have:=h.2;omega)
def Zfy:List Tm→Int
 |[]=>0
 |t::l=>if t.err≠0 then t.err else Zfy l
def Ycz(f:Tm)(l:List Tm):Nat:=f.size+(l.map fun x=>1+x.size).sum
def Ycv(f:Tm)(l:List Tm):Int:=if f.err≠0 then f.err else if Zfy l≠0 then Zfy l else if Ycz f l>4096 then 4 else 0
def applyS(f:Tm)(l:List Tm):Tm:=if Ycv f l=0 then appT f l else Zbo
mutual
def dfl:Ty→Tm
 | .mk k l=>if k=2 then nT 7 [] else if k=5 then nT 13 [] else if k=3 then nT 10 (Ycs l) else if k=4 then lmT (at0 l 0) ((Ycs l).getD 1 Zbo) else nT 4 []
def Ycs:List Ty→List Tm
 |[]=>[]
 |t::l=>dfl t::Ycs l
end
theorem Zyd(a b:Ty):dfl (Zbe a b)=nT 10 [dfl a,dfl b]:=by simp[Zbe,dfl,Ycs]
theorem Zyn(a b:Ty):dfl (yw a b)=lmT a (dfl b):=by simp[yw,dfl,Ycs,at0]
theorem Zst(t:Ty):t.shape=true→t.size≤64→(∀g,(dfl t).inf g=(t,0))∧(dfl t).shape=true∧(dfl t).size≤t.size∧(dfl t).full≤66*t.size:=by
 induction t using Ty.ind with
 |h t ih=>
  intro hs h64
  rcases Zfv hs with rfl|rfl|rfl|⟨a,b,ha,hb,rfl|rfl⟩
  ·exact ⟨fun g=>Zif g,by decide,by decide,by decide⟩
  ·exact ⟨fun g=>by simp[dfl,listT,nT,Tm.inf,Tm.infs,wq],by decide,by decide,by decide⟩
  ·exact ⟨fun g=>by simp[dfl,Zhd,nT,Tm.inf,Tm.infs,wq],by decide,by decide,by decide⟩
  ·rw [Zag] at h64 ⊢
   rw[Zyd]
   obtain⟨a1,a2,a3,a4⟩:=ih a (by simp) ha (by omega)
   obtain⟨b1,b2,b3,b4⟩:=ih b (by simp) hb (by omega)
   refine⟨fun g=>Zff (a1 g) (b1 g) ((Ty.err_iff _).2 ⟨Zgz ha hb,by rw[Zag];omega⟩),xv rfl rfl a2 b2,?_,?_⟩
   ·simp only[nT,Tm.size,Tm.sizes];omega
   ·simp only[nT,Tm.full,Tm.fulls,Ty.size,Ty.sizes];omega
  ·rw [wj] at h64 ⊢
   rw[Zyn]
   obtain⟨b1,b2,b3,b4⟩:=ih b (by simp) hb (by omega)
   have hp:=a.size_pos
   refine⟨fun g=>xn (b1 _) ((Ty.err_iff _).2 ⟨u9 ha hb,by rw[wj];omega⟩),Zah (Zpc ha (by omega)) b2,?_,?_⟩
   ·simp only[lmT,Tm.size,Tm.sizes];omega
   ·simp only[lmT,Tm.full,Tm.fulls];omega
@[simp] theorem Fm.kind_mk(k:Int)(h:Ty)(ts:List Tm)(as:List Fm):(Fm.mk k h ts as).kind=k:=rfl
@[simp] theorem Fm.ty_mk(k:Int)(h:Ty)(ts:List Tm)(as:List Fm):(Fm.mk k h ts as).ty=h:=rfl
@[simp] theorem Fm.terms_mk(k:Int)(h:Ty)(ts:List Tm)(as:List Fm):(Fm.mk k h ts as).terms=ts:=rfl
@[simp] theorem Fm.args_mk(k:Int)(h:Ty)(ts:List Tm)(as:List Fm):(Fm.mk k h ts as).args=as:=rfl
def xi(k:Int):Bool:=decide (4≤k)&&decide (k≤7)
def Fm.head(f:Fm):Bool:=
 if f.kind=1 then f.ty.isNo&&f.terms.length==2&&f.args.length==0
 else if f.kind=2∨f.kind=3 then f.ty.isNo&&f.terms.length==0&&f.args.length==2
 else if f.kind=4∨f.kind=5∨f.kind=6∨f.kind=7 then f.ty.ok&&f.terms.length==0&&f.args.length==1 else false
mutual
def Fm.shape:Fm→Bool
 | .mk k h ts as=>Fm.head (.mk k h ts as)&&ts.all Tm.shape&&Fm.shapes as
def Fm.shapes:List Fm→Bool
 |[]=>true
 |f::l=>f.shape&&Fm.shapes l
end
mutual
def Fm.size:Fm→Nat
 | .mk _ _ ts as=>1+(ts.map Tm.size).sum+Fm.sizes as
def Fm.sizes:List Fm→Nat
 |[]=>0
 |f::l=>f.size+Fm.sizes l
end
mutual
def Fm.full:Fm→Nat
 | .mk _ h ts as=>1+h.size+(ts.map Tm.full).sum+Fm.fulls as
def Fm.fulls:List Fm→Nat
 |[]=>0
 |f::l=>f.full+Fm.fulls l
end
theorem Fm.shapes_eq:∀l:List Fm,Fm.shapes l=l.all Fm.shape
 |[]=>rfl
 |f::l=>by rw[Fm.shapes,Fm.shapes_eq l];rfl
theorem Fm.sizes_eq:∀l:List Fm,Fm.sizes l=(l.map Fm.size).sum
 |[]=>rfl
 |f::l=>by rw[Fm.sizes,Fm.sizes_eq l];rfl
theorem Fm.fulls_eq:∀l:List Fm,Fm.fulls l=(l.map Fm.full).sum
 |[]=>rfl
 |f::l=>by rw[Fm.fulls,Fm.fulls_eq l];rfl
theorem Fm.shape_eq(f:Fm):f.shape=(f.head&&f.terms.all Tm.shape&&f.args.all Fm.shape):=by cases f;simp only[Fm.shape,Fm.shapes_eq];rfl
theorem Fm.size_eq(f:Fm):f.size=1+(f.terms.map Tm.size).sum+(f.args.map Fm.size).sum:=by cases f;simp only[Fm.size,Fm.sizes_eq];rfl
theorem Fm.full_eq(f:Fm):f.full=1+f.ty.size+(f.terms.map Tm.full).sum+(f.args.map Fm.full).sum:=by cases f;simp only[Fm.full,Fm.fulls_eq];rfl
theorem Fm.full_pos(f:Fm):1≤f.full:=by rw[Fm.full_eq];omega
theorem Fm.size_pos(f:Fm):1≤f.size:=by rw[Fm.size_eq];omega
theorem Fm.ind{P:Fm→Prop}(h:∀f,(∀x∈f.args,P x)→P f)(f:Fm):P f:=by
 have:∀n,∀f:Fm,f.full≤n→P f:=by
  intro n
  induction n with
  |zero=>intro f h;have:=f.full_pos;omega
  |succ n ih=>
   intro f hf
   refine h f fun x hx=>ih x ?_
   have:=zb Fm.full hx
   have:=f.full_eq
   omega
 exact this _ f (Nat.le_refl _)
theorem Fm.size_le_full(f:Fm):f.size≤f.full:=by
 induction f using Fm.ind with
 |h f ih=>
  rw[f.size_eq,f.full_eq]
  have h1:=yx (f:=Fm.size) (g:=Fm.full) f.args ih
  have h2:=yx (f:=Tm.size) (g:=Tm.full) f.terms fun x _=>x.size_le_full
  omega
def Fm.nodes(f:Fm):Nat:=if f.shape then f.size else 0
def Fm.err(f:Fm):Int:=if f.shape=false then 2 else if f.size>4096 then 4 else 0
def Fm.num(f:Fm):Int:=if f.err=0 then f.size else 0
def noFm:Fm:= .mk 0 (.mk 0 []) [] []
def eqF(a b:Tm):Fm:= .mk 1 (.mk 0 []) [a,b] []
theorem ux{a b:Tm}(ha:a.shape=true)(hb:b.shape=true):(eqF a b).shape=true:=by
 rw[Fm.shape_eq];simp[eqF,Fm.head,ha,hb,Ty.isNo]
theorem Zba(a b:Tm):(eqF a b).size=1+(a.size+b.size):=by rw[Fm.size_eq];simp[eqF]
theorem Fm.err_iff(f:Fm):f.err=0↔f.shape=true∧f.size≤4096:=by
 unfold Fm.err
 cases hs:f.shape with
 |false=>simp
 |true=>
  by_cases h:f.size>4096
  ·rw [if_neg (by simp),if_pos h];constructor
   ·intro h;cases h
   ·rintro ⟨_,h2⟩;omega
  ·rw [if_neg (by simp),if_neg h];exact⟨fun _=>⟨rfl,by omega⟩,fun _=>rfl⟩
def Tm.arg(t:Tm)(i:Nat):Tm:=t.args.getD i Zbo
mutual
def yt(at_:Int):Tm→Nat
 | .mk k i h xs=>if k=1∧i=at_ then 1 else Zio (up k at_) xs
def Zio(at_:Int):List Tm→Nat
 |[]=>0
 |x::l=>yt at_ x+Zio at_ l
end
theorem Zhr(at_:Int):∀l:List Tm,Zio at_ l=(l.map (yt at_)).sum
 |[]=>rfl
 |x::l=>by rw[Zio,Zhr at_ l];rfl
theorem Zdq(at_:Int)(t:Tm):yt at_ t=if t.kind=1∧t.index=at_ then 1 else(t.args.map (yt (up t.kind at_))).sum:=by
 cases t;simp only[yt,Zhr,Tm.kind_mk,Tm.index_mk,Tm.args_mk];rfl
theorem Zbw(t:Tm):∀at_,yt at_ t≤t.size:=by
 induction t using Tm.ind with
 |h t ih=>
  intro at_
  rw[Zdq,t.size_eq]
  split
  ·omega
  ·have:=yx (f:=yt (up t.kind at_)) (g:=Tm.size) t.args fun x hx=>ih x hx _
   omega
theorem Zgh(t:Tm):∀at_ b:Int,t.shape=true→yt (at_+b) t=cnt at_ (t.vars b):=by
 induction t using Tm.ind with
 |h t ih=>
  intro at_ b hs
  rw[Zdq]
  by_cases h1:t.kind=1
  ·rw [vt hs h1,Zbs,um hs h1]
   by_cases h:t.index=at_+b
   ·rw [if_pos ⟨h1,h⟩,if_pos (by show t.index-b=at_;omega)]
   ·rw [if_neg (fun hh=>h hh.2),if_neg (by show ¬t.index-b=at_;omega)];rfl
  ·rw [if_neg (fun hh=>h1 hh.1)]
   have hargs:=zd hs
   obtain⟨k,i,th,xs⟩:=t
   rw[Zvx at_ b k i th xs h1]
   have e:up k (at_+b)=at_+up k b:=by unfold up;split<;>omega
   simp only[Tm.kind_mk,Tm.args_mk] at*
   rw[e]
   congr 1
   exact List.map_congr_left fun x hx=>ih x hx at_ (up k b) (hargs x hx)
def Zgp(t:Tm):Bool:=
 if t.kind=3 then(t.arg 0).kind==2&&((t.arg 1).args.length==0||decide (yt 0 ((t.arg 0).arg 0)≤1))
 else if t.kind=6 then(t.arg 2).kind==4
 else if t.kind=9 then(t.arg 2).kind==7
 else if t.kind=11∨t.kind=12 then(t.arg 0).kind==10 else false
def Zb1(t:Tm):Tm:=
 if t.kind=3 then((t.arg 0).arg 0).re (y5 0 (t.arg 1)) 0
 else if t.kind=11 then(t.arg 0).arg 0 else if t.kind=12 then(t.arg 0).arg 1 else t.arg 0
mutual
def Zct:Tm→Option Tm
 | .mk k i h xs=>if Zgp (.mk k i h xs)=true then some (Zb1 (.mk k i h xs)) else(Zha xs).map (Tm.mk k i h)
def Zha:List Tm→Option (List Tm)
 |[]=>none
 |x::l=>match Zct x with
  |some u=>some (u::l)
  |none=>(Zha l).map (x::·)
end
theorem Zo2(t:Tm):Zct t=if Zgp t=true then some (Zb1 t) else(Zha t.args).map (Tm.mk t.kind t.index t.ty):=by
 cases t;simp only[Zct];rfl
theorem Zgc:∀(xs ys:List Tm),Zha xs=some ys→∃(i:Nat) (hi:i<xs.length) (u:Tm),Zct xs[i]=some u∧ys=xs.set i u∧∀(j:Nat) (hj:j<xs.length),j<i→Zct xs[j]=none
 |[],ys,h=>by simp[Zha] at h
 |x::l,ys,h=>by
  simp only[Zha] at h
  cases hx:Zct x with
  |some u=>
   rw[hx] at h
   cases h
   exact⟨0,by simp,u,hx,rfl,fun j _ hj=>by omega⟩
  |none=>
   rw[hx] at h
   simp only[Option.map_eq_some_iff] at h
   obtain⟨zs,h1,rfl⟩:=h
   obtain⟨i,hi,u,h2,rfl,h3⟩:=Zgc l zs h1
   refine⟨i+1,by simpa using hi,u,by simpa using h2,rfl,fun j hj hji=> ?_⟩
   cases j with
   |zero=>exact hx
   |succ j=>have:=h3 j (by simpa using hj) (by omega);simpa using this
theorem w7{t:Tm}{g:List Ty}{T:Ty}(h1:t.kind≠1)(h2:t.kind≠2)(h:t.inf g=(T,0)):(∀x∈t.args,(x.inf g).2=0)∧wq t.kind t.ty (t.args.map fun x=>(x.inf g).1)=(T,0):=by
 rw[Tm.inf_eq,if_neg h1,if_neg h2] at h
 by_cases h3:(Tm.infs g t.args).2=0
 ·rw [if_neg (by simpa using h3)] at h
  have h4:=Tm.infs_all g t.args h3
  refine⟨h4,?_⟩
  rw[Tm.infs_ok g t.args h4] at h
  exact h
 ·rw [if_pos h3] at h
  exact absurd (congrArg Prod.snd h) h3
theorem Zbi{i:Int}{th T:Ty}{b:Tm}{g:List Ty}(h:(Tm.mk 2 i th [b]).inf g=(T,0)):(b.inf (g++[th])).2=0∧T=yw th (b.inf (g++[th])).1:=by
 rw[Tm.inf_eq,if_neg (by simp),if_pos (by simp)] at h
 simp only[Tm.args_mk,Tm.ty_mk] at h
 by_cases h3:(b.inf (g++[th])).2=0
 ·refine ⟨h3,?_⟩
  simp only[Tm.infs,h3,ne_eq,not_true_eq_false,if_false] at h
  unfold okT at h
  split at h
  ·exact (congrArg Prod.fst h).symm
  ·exact absurd (congrArg Prod.snd h) (by simp)
 ·simp only[Tm.infs,h3,ne_eq,not_false_eq_true,if_true] at h
  exact absurd (congrArg Prod.snd h) h3
theorem Zzf{a b T:Ty}(h:okT (Zbe a b)=(T,0)):T=Zbe a b:=by
 unfold okT at h
 split at h
 ·exact (congrArg Prod.fst h).symm
 ·exact absurd (congrArg Prod.snd h) (by simp)
theorem Zi3{i:Int}{th T:Ty}{x y:Tm}{g:List Ty}(h:(Tm.mk 10 i th [x,y]).inf g=(T,0)):(x.inf g).2=0∧(y.inf g).2=0∧T=Zbe (x.inf g).1 (y.inf g).1:=by
 obtain⟨h1,h2⟩:=w7 (by simp) (by simp) h
 exact⟨h1 x (by simp),h1 y (by simp),Zzf (by simpa [wq,at0] using h2)⟩
theorem Zc0{t:Tm}(hs:t.shape=true){k:Int}(hk:t.kind=k)(ha:arK k=some 2):∃i th x y,t= .mk k i th [x,y]∧x.shape=true∧y.shape=true:=by
 have h:=Zcy hs
 have h2:=zd hs
 obtain⟨k',i,th,xs⟩:=t
 simp only[Tm.kind_mk,Tm.args_mk] at*
 subst hk
 rw[ha] at h
 obtain⟨x,y,rfl⟩:=Zwj (Option.some.inj h).symm
 exact⟨i,th,x,y,rfl,h2 x (by simp),h2 y (by simp)⟩
theorem Zao{t:Tm}(hs:t.shape=true){k:Int}(hk:t.kind=k)(ha:arK k=some 1):∃i th x,t= .mk k i th [x]∧x.shape=true:=by
 have h:=Zcy hs
 have h2:=zd hs
 obtain⟨k',i,th,xs⟩:=t
 simp only[Tm.kind_mk,Tm.args_mk] at*
 subst hk
 rw[ha] at h
 obtain⟨x,rfl⟩:=Yap (Option.some.inj h).symm
 exact⟨i,th,x,rfl,h2 x (by simp)⟩
theorem Zeo{t:Tm}(hs:t.shape=true){k:Int}(hk:t.kind=k)(ha:arK k=some 3):∃i th x y z,t= .mk k i th [x,y,z]∧x.shape=true∧y.shape=true∧z.shape=true:=by
 have h:=Zcy hs
 have h2:=zd hs
 obtain⟨k',i,th,xs⟩:=t
 simp only[Tm.kind_mk,Tm.args_mk] at*
 subst hk
 rw[ha] at h
 obtain⟨x,y,z,rfl⟩:=Ybv (Option.some.inj h).symm
 exact⟨i,th,x,y,z,rfl,h2 x (by simp),h2 y (by simp),h2 z (by simp)⟩
theorem Zj6{t:Tm}(hs:t.shape=true)(h:Zgp t=true):
 (∃i th j s b a,t= .mk 3 i th [.mk 2 j s [b],a]∧b.shape=true∧a.shape=true∧(a.args.length=0∨yt 0 b≤1)∧Zb1 t=b.re (y5 0 a) 0)∨
 (∃k i th x y z,(k=6∨k=9)∧t= .mk k i th [x,y,z]∧x.shape=true∧Zb1 t=x)∨
 (∃k i th j s x y,(k=11∨k=12)∧t= .mk k i th [.mk 10 j s [x,y]]∧x.shape=true∧y.shape=true∧Zb1 t=if k=11 then x else y):=by
 unfold Zgp at h
 by_cases h3:t.kind=3
 ·left
  rw[if_pos h3] at h
  obtain⟨i,th,f,a,rfl,hf,ha⟩:=Zc0 hs h3 rfl
  simp only[Tm.arg,Tm.args_mk,List.getD_cons_zero,List.getD_cons_succ,Bool.and_eq_true,beq_iff_eq,Bool.or_eq_true,decide_eq_true_eq] at h
  obtain⟨j,s,b,rfl,hb⟩:=Zao hf h.1 rfl
  exact⟨i,th,j,s,b,a,rfl,hb,ha,by simpa [Tm.arg] using h.2,rfl⟩
 ·rw [if_neg h3] at h
  by_cases h6:t.kind=6
  ·obtain ⟨i,th,x,y,z,rfl,hx,_,_⟩:=Zeo hs h6 rfl
   exact .inr (.inl ⟨6,i,th,x,y,z,.inl rfl,rfl,hx,rfl⟩)
  ·rw [if_neg h6] at h
   by_cases h9:t.kind=9
   ·obtain ⟨i,th,x,y,z,rfl,hx,_,_⟩:=Zeo hs h9 rfl
    exact .inr (.inl ⟨9,i,th,x,y,z,.inr rfl,rfl,hx,rfl⟩)
   ·rw [if_neg h9] at h
    by_cases h11:t.kind=11∨t.kind=12
    ·rw [if_pos h11] at h
     have ha:arK t.kind=some 1:=by rcases h11 with h|h<;>rw[h]<;>rfl
     obtain⟨i,th,p,rfl',hp⟩:=Zao hs rfl ha
     rw[rfl'] at h
     simp only[Tm.arg,Tm.args_mk,List.getD_cons_zero,beq_iff_eq] at h
     obtain⟨j,s,x,y,rfl,hx,hy⟩:=Zc0 hp h rfl
     refine .inr (.inr ⟨t.kind,i,th,j,s,x,y,h11,rfl',hx,hy,?_⟩)
     rcases h11 with hk|hk<;>rw[rfl',hk]<;>rfl
    ·rw [if_neg h11] at h;cases h
theorem Ztr{t:Tm}{g:List Ty}{T:Ty}(hs:t.shape=true)(h:t.inf g=(T,0))(hsm:Zgp t=true):(Zb1 t).inf g=(T,0)∧(Zb1 t).shape=true∧(Zb1 t).size<t.size:=by
 rcases Zj6 hs hsm with⟨i,th,j,s,b,a,rfl,hb,ha,hor,e⟩|⟨k,i,th,x,y,z,hk,rfl,hx,e⟩|⟨k,i,th,j,s,x,y,hk,rfl,hx,hy,e⟩
 ·rw [e]
  obtain⟨h1,h2⟩:=w7 (by simp) (by simp) h
  have hf:(Tm.mk 2 j s [b]).inf g=(((Tm.mk 2 j s [b]).inf g).1,0):=by rw[←h1 (.mk 2 j s [b]) (by simp)]
  obtain⟨h3,h4⟩:=Zbi hf
  have ha0:=h1 a (by simp)
  simp only[Tm.kind_mk,Tm.ty_mk,Tm.args_mk,List.map_cons,List.map_nil,h4] at h2
  have h5:s=(a.inf g).1∧(b.inf (g++[s])).1=T:=by
   simp only[wq,at0,List.getD_cons_zero,List.getD_cons_succ,Zle,Zli] at h2
   by_cases h6:s=(a.inf g).1
   ·refine ⟨h6,?_⟩
    simp[h6] at h2
    rw[h6];exact h2
   ·simp [h6] at h2
  have hσ:a.inf g=(s,0):=by rw[h5.1,←ha0]
  have hp:=Zmi b a g [] s 0 0 hb ha rfl hσ
  rw[List.append_nil,List.append_nil] at hp
  refine⟨by rw[hp,←h5.2,←h3],Zd6 0 ha hb (by omega) (by omega) (fun p hp=>uj b 0 p hp),?_⟩
  rw[Zfd 0 a b ha 0 hb]
  have hc:=Zgh b 0 0 hb
  rw[show(0:Int)+0=0 from rfl] at hc
  have hsz:(Tm.mk 3 i th [Tm.mk 2 j s [b],a]).size=2+b.size+a.size:=by simp only[Tm.size,Tm.sizes];omega
  rw[hsz,←hc]
  have hap:=a.size_pos
  rcases hor with h0|h0
  ·have:a.size=1:=by rw[a.size_eq,List.eq_nil_of_length_eq_zero h0];rfl
   rw[this];omega
  ·have:yt 0 b*(a.size-1)≤1*(a.size-1):=Nat.mul_le_mul_right _ h0
   omega
 ·rw [e]
  have hne:(Tm.mk k i th [x,y,z]).kind≠1∧(Tm.mk k i th [x,y,z]).kind≠2:=by rcases hk with rfl|rfl<;>exact⟨by simp,by simp⟩
  obtain⟨h1,h2⟩:=w7 hne.1 hne.2 h
  have hx0:=h1 x (by simp)
  refine⟨?_,hx,by simp only[Tm.size,Tm.sizes];omega⟩
  have h3:(x.inf g).1=th∧th=T:=by
   simp only[Tm.kind_mk,Tm.ty_mk,Tm.args_mk,List.map_cons,List.map_nil] at h2
   rcases hk with rfl|rfl
   ·simp only[wq,at0,List.getD_cons_zero,List.getD_cons_succ] at h2
    by_cases h6:(x.inf g).1=th
    ·refine ⟨h6,?_⟩
     simp[h6] at h2
     split at h2
     ·simp at h2
     ·simpa using h2
    ·simp [h6] at h2
   ·simp only[wq,at0,List.getD_cons_zero,List.getD_cons_succ] at h2
    by_cases h6:(x.inf g).1=th
    ·refine ⟨h6,?_⟩
     simp[h6] at h2
     split at h2
     ·simp at h2
     ·simpa using h2
    ·simp [h6] at h2
  rw[←h3.2,←h3.1,←hx0]
 ·rw [e]
  have hne:(Tm.mk k i th [Tm.mk 10 j s [x,y]]).kind≠1∧(Tm.mk k i th [Tm.mk 10 j s [x,y]]).kind≠2:=by rcases hk with rfl|rfl<;>exact⟨by simp,by simp⟩
  obtain⟨h1,h2⟩:=w7 hne.1 hne.2 h
  have hf:(Tm.mk 10 j s [x,y]).inf g=(((Tm.mk 10 j s [x,y]).inf g).1,0):=by rw[←h1 (.mk 10 j s [x,y]) (by simp)]
  obtain⟨h3,h4,h5⟩:=Zi3 hf
  simp only[Tm.kind_mk,Tm.ty_mk,Tm.args_mk,List.map_cons,List.map_nil,h5] at h2
  rcases hk with rfl|rfl
  ·rw [if_pos rfl]
   refine⟨?_,hx,by simp only[Tm.size,Tm.sizes];omega⟩
   simp[wq,at0] at h2
   rw[←h2,←h3]
  ·rw [if_neg (by decide)]
   refine⟨?_,hy,by simp only[Tm.size,Tm.sizes];omega⟩
   simp[wq,at0] at h2
   rw[←h2,←h4]
theorem Zl9{α:Type}(f:α→Nat)(u:α):∀(xs:List α) (i:Nat) (hi:i<xs.length),((xs.set i u).map f).sum+f xs[i]=(xs.map f).sum+f u
 |[],i,hi=>by simp at hi
 |x::l,0,_=>by simp only[List.set_cons_zero,List.map_cons,List.sum_cons,List.getElem_cons_zero];omega
 |x::l,i+1,hi=>by
  have:=Zl9 f u l i (by simpa using hi)
  simp only[List.set_cons_succ,List.map_cons,List.sum_cons,List.getElem_cons_succ];omega
theorem Zfi(g:List Ty)(u:Tm):∀(xs:List Tm) (i:Nat) (hi:i<xs.length),u.inf g=xs[i].inf g→Tm.infs g (xs.set i u)=Tm.infs g xs
 |[],i,hi,_=>by simp at hi
 |x::l,0,_,h=>by
  simp only[List.getElem_cons_zero] at h
  simp only[List.set_cons_zero,Tm.infs,h]
 |x::l,i+1,hi,h=>by
  simp only[List.set_cons_succ,Tm.infs]
  rw[Zfi g u l i (by simpa using hi) (by simpa using h)]
theorem Zt1(i:Int)(th:Ty)(xs:List Tm)(g:List Ty):(Tm.mk 2 i th xs).inf g=if(Tm.infs (g++[th]) xs).2≠0 then(noTy,(Tm.infs (g++[th]) xs).2) else okT (yw th (at0 (Tm.infs (g++[th]) xs).1 0)):=by
 rw[Tm.inf]
 rw[if_neg (by decide),if_pos rfl]
theorem Zlb{i:Int}{th:Ty}{v b:Tm}{g:List Ty}(hv:v.inf (g++[th])=b.inf (g++[th])):(Tm.mk 2 i th [v]).inf g=(Tm.mk 2 i th [b]).inf g:=by
 have e:Tm.infs (g++[th]) [v]=Tm.infs (g++[th]) [b]:=Zfi (g++[th]) v [b] 0 (by simp) hv
 rw[Zt1,Zt1,e]
theorem Zgu{k i:Int}{th:Ty}{xs:List Tm}{m:Nat}{u:Tm}(h:(Tm.mk k i th xs).shape=true)(hu:u.shape=true):(Tm.mk k i th (xs.set m u)).shape=true:=by
 have hargs:=zd h
 rw[Tm.shape_eq] at h ⊢
 simp only[Bool.and_eq_true] at h ⊢
 refine⟨?_,?_⟩
 ·have e:(Tm.mk k i th (xs.set m u)).head=(Tm.mk k i th xs).head:=by simp only[Tm.head,Tm.kind_mk,Tm.args_mk,Tm.index_mk,Tm.ty_mk];cases arK k<;>simp<;>rfl
  rw[e];exact h.1
 ·refine List.all_eq_true.2 fun x hx=> ?_
  rcases List.mem_or_eq_of_mem_set hx with hx|rfl
  ·exact hargs x hx
  ·exact hu
theorem next_ok(t:Tm):∀(g:List Ty) (T:Ty) (u:Tm),t.shape=true→t.inf g=(T,0)→Zct t=some u→u.inf g=(T,0)∧u.shape=true∧u.size<t.size:=by
 induction t using Tm.ind with
 |h t ih=>
  intro g T u hs h hn
  rw[Zo2] at hn
  by_cases hsm:Zgp t=true
  ·rw [if_pos hsm] at hn
   cases hn
   exact Ztr hs h hsm
  ·rw [if_neg hsm,Option.map_eq_some_iff] at hn
   obtain⟨ys,h1,rfl⟩:=hn
   obtain⟨m,hm,v,h2,rfl,_⟩:=Zgc _ _ h1
   have hargs:=zd hs
   have hx:=hargs _ (List.getElem_mem hm)
   have hmem:=List.getElem_mem hm
   have hss:=fun(hv:v.size<(t.args[m]).size)=>Zl9 Tm.size v t.args m hm
   by_cases k1:t.kind=1
   ·exact absurd (um hs k1) (fun hh=>by rw[hh] at hm;simp at hm)
   ·have key:∀g' T',(t.args[m]).inf g'=(T',0)→v.inf g'=(T',0)∧v.shape=true∧v.size<(t.args[m]).size:=fun g' T' hi=>ih _ hmem g' T' v hx hi h2
    by_cases k2:t.kind=2
    ·obtain ⟨i,th,b,rfl,hb⟩:=Zao hs k2 rfl
     obtain⟨h3,h4⟩:=Zbi h
     have hm0:m=0:=by simp at hm;omega
     subst hm0
     simp only[Tm.args_mk,List.getElem_cons_zero] at*
     obtain⟨q1,q2,q3⟩:=key (g++[th]) (b.inf (g++[th])).1 (by rw[←h3])
     refine⟨?_,Zgu (m:=0) (xs:=[b]) hs q2,?_⟩
     ·have:v.inf (g++[th])=b.inf (g++[th]):=by rw[q1,←h3]
      rw[←h]
      simp only[List.set_cons_zero,Tm.kind_mk,Tm.ty_mk,Tm.index_mk]
      exact Zlb this
     ·simp only[List.set_cons_zero,Tm.size,Tm.sizes];omega
    ·obtain ⟨h3,h4⟩:=w7 k1 k2 h
     have h5:=h3 _ hmem
     obtain⟨q1,q2,q3⟩:=key g (t.args[m].inf g).1 (by rw[←h5])
     have hset:=hss q3
     have hi:v.inf g=(t.args[m]).inf g:=by rw[q1,←h5]
     refine⟨?_,?_,?_⟩
     ·rw [←h,Tm.inf_eq g (Tm.mk t.kind t.index t.ty (t.args.set m v)),if_neg (show ¬(Tm.mk t.kind t.index t.ty (t.args.set m v)).kind=1 from k1),if_neg (show ¬(Tm.mk t.kind t.index t.ty (t.args.set m v)).kind=2 from k2),t.inf_eq,if_neg k1,if_neg k2]
      show(if(Tm.infs g (t.args.set m v)).2≠0 then(noTy,(Tm.infs g (t.args.set m v)).2) else wq t.kind t.ty (Tm.infs g (t.args.set m v)).1)=_
      rw[Zfi g v t.args m hm hi]
     ·obtain ⟨k,i,th,xs⟩:=t
      exact Zgu hs q2
     ·rw [t.size_eq,Tm.size_eq]
      simp only[Tm.args_mk]
      omega
theorem yn(t:Tm):t.shape=true→t.full≤65*t.size:=by
 induction t using Tm.ind with
 |h t ih=>
  intro hs
  have hargs:=zd hs
  have hty:t.ty.size≤64:=by
   rw[Tm.shape_eq,Bool.and_eq_true] at hs
   have:=hs.1
   simp only[Tm.head,Bool.and_eq_true] at this
   have h2:=this.2
   cases hk:xu t.kind with
   |true=>rw[hk] at h2;simp only[cond_true,Ty.ok,Bool.and_eq_true,decide_eq_true_eq] at h2;exact h2.2
   |false=>
    rw[hk] at h2
    simp only[cond_false,Ty.isNo,Bool.and_eq_true,beq_iff_eq] at h2
    rw[t.ty.size_eq,List.eq_nil_of_length_eq_zero h2.2]
    exact Nat.le_trans (Nat.le_of_eq rfl) (by decide)
  have hsum:=yx (f:=Tm.full) (g:=fun x=>65*x.size) t.args fun x hx=>ih x hx (hargs x hx)
  have hmul:∀l:List Tm,(l.map fun x=>65*x.size).sum=65*(l.map Tm.size).sum:=by
   intro l
   induction l with
   |nil=>rfl
   |cons x l ih=>simp only[List.map_cons,List.sum_cons,ih];omega
  rw[hmul] at hsum
  rw[t.full_eq,t.size_eq]
  omega
inductive Red:Tm→Tm→Nat→Prop
 |done {t:Tm} (h:Zct t=none):Red t t 0
 |step {t u v:Tm} {n:Nat} (h:Zct t=some u) (hr:Red u v n):Red t v (n+1)
theorem Zg1(a b:Tm):Zct (nT 10 [a,b])=match Zct a with|some u=>some (nT 10 [u,b])|none=>(Zct b).map fun v=>nT 10 [a,v]:=by
 rw[Zo2,if_neg (by simp[Zgp,nT])]
 simp only[nT,Tm.args_mk,Tm.kind_mk,Tm.index_mk,Tm.ty_mk,Zha]
 cases Zct a with
 |some u=>rfl
 |none=>
  cases Zct b with
  |some v=>rfl
  |none=>rfl
theorem Red.right{a:Tm}(ha:Zct a=none){b y:Tm}{m:Nat}(h:Red b y m):Red (nT 10 [a,b]) (nT 10 [a,y]) m:=by
 induction h with
 |done h=>exact .done (by rw[Zg1,ha,h];rfl)
 |step h _ ih=>exact .step (by rw[Zg1,ha,h];rfl) ih
theorem Red.pair{a x b y:Tm}{n m:Nat}(h:Red a x n)(hb:Red b y m):Red (nT 10 [a,b]) (nT 10 [x,y]) (n+m):=by
 induction h with
 |done h=>rw[Nat.zero_add];exact Red.right h hb
 |step h _ ih=>rw[Nat.add_right_comm];exact .step (by rw[Zg1,h]) ih
mutual
def farT:Tm→Bool
 | .mk _ i _ xs=>decide (i>536870912)||Ybn xs
def Ybn:List Tm→Bool
 |[]=>false
 |x::l=>farT x||Ybn l
end
def Dk.plain(d:Dk):Ty×Dk:=
 (if(d.next 6).1=0∨(d.next 6).1=1 then natT else if(d.next 6).1=2 then listT else if(d.next 6).1=3 then Zhd else if(d.next 6).1=4 then Zbe natT listT else Zbe natT natT,(d.next 6).2)
def vk(k:Int)(a b:Fm):Fm:= .mk k (.mk 0 []) [] [a,b]
def quF(k:Int)(s:Ty)(f:Fm):Fm:= .mk k s [] [f]
def Dk.eqf(d:Dk)(g:List Ty):Fm×Dk:=(eqF (Dk.tm 3 d g natT).1 (Dk.tm 3 (Dk.tm 3 d g natT).2 g natT).1,(Dk.tm 3 (Dk.tm 3 d g natT).2 g natT).2)
def Dk.fm:Nat→Dk→List Ty→Fm×Dk
 |0,d,g=>d.eqf g
 |n+1,d,g=>
  if(d.next 9).1=0 then(vk 2 (Dk.fm n (d.next 9).2 g).1 (Dk.fm n (Dk.fm n (d.next 9).2 g).2 g).1,(Dk.fm n (Dk.fm n (d.next 9).2 g).2 g).2)
  else if(d.next 9).1=1∨(d.next 9).1=2 then(vk 3 (Dk.fm n (d.next 9).2 g).1 (Dk.fm n (Dk.fm n (d.next 9).2 g).2 g).1,(Dk.fm n (Dk.fm n (d.next 9).2 g).2 g).2)
  else if(d.next 9).1=3∨(d.next 9).1=4 then(quF 4 ((d.next 9).2.type 1).1 (Dk.fm n ((d.next 9).2.type 1).2 (g++[((d.next 9).2.type 1).1])).1,(Dk.fm n ((d.next 9).2.type 1).2 (g++[((d.next 9).2.type 1).1])).2)
  else if(d.next 9).1=5 then(quF 5 ((d.next 9).2.type 1).1 (Dk.fm n ((d.next 9).2.type 1).2 (g++[((d.next 9).2.type 1).1])).1,(Dk.fm n ((d.next 9).2.type 1).2 (g++[((d.next 9).2.type 1).1])).2)
  else if(d.next 9).1=6 then(quF (6+(((d.next 9).2.type 0).2.next 2).1) ((d.next 9).2.type 0).1 (Dk.fm n (((d.next 9).2.type 0).2.next 2).2 (g++[((d.next 9).2.type 0).1])).1,(Dk.fm n (((d.next 9).2.type 0).2.next 2).2 (g++[((d.next 9).2.type 0).1])).2)
  else(d.next 9).2.eqf g
theorem Dk.eqf_ok{d:Dk}{g:List Ty}(h:d.ok):(d.eqf g).2.ok:=Dk.tm_ok 3 _ g natT (Dk.tm_ok 3 d g natT h)
theorem Dk.fm_ok:∀(n:Nat) (d:Dk) (g:List Ty),d.ok→(Dk.fm n d g).2.ok:=by
 intro n
 induction n with
 |zero=>exact fun d g h=>Dk.eqf_ok h
 |succ n ih=>
  intro d g h
  have h9:=Dk.next_ok h 9
  simp only[Dk.fm]
  repeat' split
  ·exact ih _ _ (ih _ _ h9)
  ·exact ih _ _ (ih _ _ h9)
  ·exact ih _ _ (Dk.type_ok 1 _ h9)
  ·exact ih _ _ (Dk.type_ok 1 _ h9)
  ·exact ih _ _ (Dk.next_ok (Dk.type_ok 0 _ h9) 2)
  ·exact Dk.eqf_ok h9
theorem s1_3:s1 3≤60:=by decide
def FmOk(n:Nat)(f:Fm):Prop:=f.shape=true∧f.size+1≤122*2^n∧f.full+10≤1200*2^n
theorem Dk.eqf_good(d:Dk){g:List Ty}(hg:smalls g):FmOk 0 (d.eqf g).1:=by
 have m1:=Dk.tm_mk 3 d g natT hg ze (by omega) (by omega)
 have m2:=Dk.tm_mk 3 (Dk.tm 3 d g natT).2 g natT hg ze (by omega) (by omega)
 have z1:=(m1.size hg ze).2 rfl
 have z2:=(m2.size hg ze).2 rfl
 have f1:=m1.full hg ze
 have f2:=m2.full hg ze
 have h3:=s1_3
 refine⟨ux (m1.shape hg ze) (m2.shape hg ze),?_,?_⟩
 ·show (eqF _ _).size+1≤_
  rw[Zba];omega
 ·show (eqF _ _).full+10≤_
  rw[Fm.full_eq]
  simp only[eqF,Fm.ty_mk,Fm.terms_mk,Fm.args_mk,List.map_cons,List.map_nil,List.sum_cons,List.sum_nil,Ty.size,Ty.sizes];omega
theorem Zkj{n:Nat}{k:Int}{a b:Fm}(hk:k=2∨k=3)(ha:FmOk n a)(hb:FmOk n b):FmOk (n+1) (vk k a b):=by
 obtain⟨a1,a2,a3⟩:=ha
 obtain⟨b1,b2,b3⟩:=hb
 refine⟨?_,?_,?_⟩
 ·rw [Fm.shape_eq]
  rcases hk with rfl|rfl<;>simp[vk,Fm.head,a1,b1,Ty.isNo]
 ·rw [Fm.size_eq,Nat.pow_succ]
  simp only[vk,Fm.terms_mk,Fm.args_mk,List.map_cons,List.map_nil,List.sum_cons,List.sum_nil];omega
 ·rw [Fm.full_eq,Nat.pow_succ]
  have:1≤2^n:=Nat.one_le_two_pow
  simp only[vk,Fm.ty_mk,Fm.terms_mk,Fm.args_mk,List.map_cons,List.map_nil,List.sum_cons,List.sum_nil,Ty.size,Ty.sizes];omega
theorem Ziz{n:Nat}{k:Int}{s:Ty}{f:Fm}(hk:4≤k∧k≤7)(hs:s.small)(hf:FmOk n f):FmOk (n+1) (quF k s f):=by
 obtain⟨a1,a2,a3⟩:=hf
 have hz:=hs.2
 have:1≤2^n:=Nat.one_le_two_pow
 refine⟨?_,?_,?_⟩
 ·rw [Fm.shape_eq]
  have h4:k=4∨k=5∨k=6∨k=7:=by omega
  rcases h4 with rfl|rfl|rfl|rfl<;>simp[quF,Fm.head,a1,Zw7 hs]
 ·rw [Fm.size_eq,Nat.pow_succ]
  simp only[quF,Fm.terms_mk,Fm.args_mk,List.map_cons,List.map_nil,List.sum_cons,List.sum_nil];omega
 ·rw [Fm.full_eq,Nat.pow_succ]
  simp only[quF,Fm.ty_mk,Fm.terms_mk,Fm.args_mk,List.map_cons,List.map_nil,List.sum_cons,List.sum_nil];omega
theorem FmOk.up{n:Nat}{f:Fm}(h:FmOk 0 f):FmOk (n+1) f:=by
 obtain⟨a1,a2,a3⟩:=h
 have:1≤2^(n+1):=Nat.one_le_two_pow
 exact⟨a1,by omega,by omega⟩
theorem Dk.fm_good:∀(n:Nat) (d:Dk) (g:List Ty),smalls g→FmOk n (Dk.fm n d g).1:=by
 intro n
 induction n with
 |zero=>exact fun d g hg=>Dk.eqf_good d hg
 |succ n ih=>
  intro d g hg
  have h2:=Dk.next_bd (((d.next 9).2.type 0).2) 2 (by omega)
  have s1:=Dk.type1 (d.next 9).2
  have s0:=Dk.type0 (d.next 9).2
  have s0':=zp s0.1 s0.2
  simp only[Dk.fm]
  repeat' split
  ·exact Zkj (.inl rfl) (ih _ _ hg) (ih _ _ hg)
  ·exact Zkj (.inr rfl) (ih _ _ hg) (ih _ _ hg)
  ·exact Ziz ⟨by omega,by omega⟩ s1 (ih _ _ (zl hg (zg s1 zj)))
  ·exact Ziz ⟨by omega,by omega⟩ s1 (ih _ _ (zl hg (zg s1 zj)))
  ·exact Ziz ⟨by omega,by omega⟩ s0' (ih _ _ (zl hg (zg s0' zj)))
  ·exact (Dk.eqf_good _ hg).up
def quFs(qs:List (Int×Ty))(f:Fm):Fm:=qs.foldr (fun q f=>quF q.1 q.2 f) f
def imFs(ps:List Fm)(c:Fm):Fm:=ps.foldr (vk 3) c
theorem Ty.no_of{t:Ty}(h:t.isNo=true):t= .mk 0 []:=by
 obtain⟨k,as⟩:=t
 simp only[Ty.isNo,Ty.kind,Ty.args,Bool.and_eq_true,beq_iff_eq,List.length_eq_zero_iff] at h
 rw[h.1,h.2]
def upF(k b:Int):Int:=if xi k=true then b+1 else b
mutual
def Fm.tms(b:Int):Fm→List (Tm×Int)
 | .mk k _ ts as=>ts.map (fun t=>(t,b))++Fm.tmss (upF k b) as
def Fm.tmss(b:Int):List Fm→List (Tm×Int)
 |[]=>[]
 |f::l=>f.tms b++Fm.tmss b l
end
mutual
def Fm.re(g:Int→Tm→Tm)(b:Int):Fm→Fm
 | .mk k h ts as=> .mk k h (ts.map (g b)) (Fm.res g (upF k b) as)
def Fm.res(g:Int→Tm→Tm)(b:Int):List Fm→List Fm
 |[]=>[]
 |f::l=>f.re g b::Fm.res g b l
end
theorem Fm.tmss_eq(b:Int):∀l:List Fm,Fm.tmss b l=l.flatMap (Fm.tms b)
 |[]=>rfl
 |f::l=>by rw[Fm.tmss,Fm.tmss_eq b l,List.flatMap_cons]
theorem Fm.res_eq(g:Int→Tm→Tm)(b:Int):∀l:List Fm,Fm.res g b l=l.map (Fm.re g b)
 |[]=>rfl
 |f::l=>by rw[Fm.res,Fm.res_eq g b l,List.map_cons]
theorem Fm.tms_eq(b:Int)(f:Fm):f.tms b=f.terms.map (fun t=>(t,b))++f.args.flatMap (Fm.tms (upF f.kind b)):=by cases f;simp only[Fm.tms,Fm.tmss_eq];rfl
theorem Fm.re_eq(g:Int→Tm→Tm)(b:Int)(f:Fm):f.re g b= .mk f.kind f.ty (f.terms.map (g b)) (f.args.map (Fm.re g (upF f.kind b))):=by cases f;simp only[Fm.re,Fm.res_eq];rfl
def wu(at_:Int):List (Tm×Int)→Nat
 |[]=>0
 |p::l=>cnt (at_+p.2) (p.1.vars 0)+wu at_ l
theorem yu(at_:Int):∀l l':List (Tm×Int),wu at_ (l++l')=wu at_ l+wu at_ l'
 |[],l'=>by simp[wu]
 |p::l,l'=>by simp only[List.cons_append,wu,yu at_ l l'];omega
theorem Zej(at_:Int):∀l:List (Tm×Int),wu at_ l≤(l.map fun p=>p.1.size).sum
 |[]=>Nat.le_refl _
 |p::l=>by
  have h1:=Zn1 (at_+p.2) (p.1.vars 0)
  have h2:=p.1.vars_len 0
  have h3:=Zej at_ l
  simp only[wu,List.map_cons,List.sum_cons];omega
theorem Zfj(f:Fm):∀b,((f.tms b).map fun p=>p.1.size).sum+1≤f.size:=by
 induction f using Fm.ind with
 |h f ih=>
  intro b
  rw[Fm.tms_eq,Fm.size_eq]
  have h1:∀l:List Fm,(∀x∈l,∀b,((x.tms b).map fun p=>p.1.size).sum+1≤x.size)→((l.flatMap (Fm.tms (upF f.kind b))).map fun p=>p.1.size).sum≤(l.map Fm.size).sum:=by
   intro l
   induction l with
   |nil=>intro _;simp
   |cons x l ih2=>
    intro h
    have h2:=ih2 fun y hy=>h y (by simp[hy])
    have h3:=h x (by simp) (upF f.kind b)
    simp only[List.flatMap_cons,List.map_append,List.sum_append,List.map_cons,List.sum_cons];omega
  have h2:=h1 f.args ih
  have h3:((f.terms.map fun t=>(t,b)).map fun p=>p.1.size)=f.terms.map Tm.size:=by simp[Function.comp_def]
  rw[List.map_append,List.sum_append,h3];omega
theorem Zzq(f:Fm)(b:Int)(m:Nat):(((f.terms.take m).map fun t=>(t,b)).map fun p:Tm×Int=>p.1.size).sum≤f.size:=by
 have h1:=zk Tm.size f.terms m
 have h3:(((f.terms.take m).map fun t=>(t,b)).map fun p:Tm×Int=>p.1.size)=(f.terms.take m).map Tm.size:=by simp[Function.comp_def]
 rw[h3,Fm.size_eq];omega
theorem Zv4(b:Int)(l:List Fm):((l.flatMap (Fm.tms b)).map fun p:Tm×Int=>p.1.size).sum≤(l.map Fm.size).sum:=by
 induction l with
 |nil=>simp
 |cons x l ih=>
  have h3:=Zfj x b
  simp only[List.flatMap_cons,List.map_append,List.sum_append,List.map_cons,List.sum_cons];omega
theorem Yam(f:Fm)(b:Int)(m:Nat)(h:m<f.args.length):((f.terms.map (fun t=>(t,b))++(f.args.take m).flatMap (Fm.tms (upF f.kind b))).map fun p:Tm×Int=>p.1.size).sum+(f.args[m]).size≤f.size:=by
 have h1:=Zv4 (upF f.kind b) (f.args.take m)
 have h2:=yk Fm.size f.args m h
 have h4:=zk Fm.size f.args (m+1)
 have h3:((f.terms.map fun t=>(t,b)).map fun p:Tm×Int=>p.1.size)=f.terms.map Tm.size:=by simp[Function.comp_def]
 have e:=f.size_eq
 rw[List.map_append,List.sum_append,h3];omega
theorem Zkx(f:Fm):f.shape=true→∀b,∀p∈f.tms b,p.1.shape=true:=by
 induction f using Fm.ind with
 |h f ih=>
  intro hs b p hp
  rw[Fm.shape_eq,Bool.and_eq_true,Bool.and_eq_true] at hs
  rw[Fm.tms_eq,List.mem_append] at hp
  rcases hp with hp|hp
  ·obtain ⟨t,ht,rfl⟩:=List.mem_map.1 hp
   exact List.all_eq_true.1 hs.1.2 t ht
  ·obtain ⟨x,hx,hp⟩:=List.mem_flatMap.1 hp
   exact ih x hx (List.all_eq_true.1 hs.2 x hx) _ p hp
def Tm.nearE(t:Tm):Bool:=(t.vars 0).all fun p=>decide (p.1≤268435456)
def Zmf(P:Tm→Bool)(b:Bool)(l:List (Tm×Int)):Bool:=b&&l.all fun p=>P p.1
theorem Zg2(P:Tm→Bool)(b:Bool)(l l':List (Tm×Int)):Zmf P (Zmf P b l) l'=Zmf P b (l++l'):=by simp[Zmf,Bool.and_assoc]
theorem Zfb(P:Tm→Bool)(b:Bool)(t:Tm)(i:Int):Zmf P b [(t,i)]=(b&&P t):=by simp[Zmf]
theorem Zid(P:Tm→Bool)(b:Bool):Zmf P b []=b:=by simp[Zmf]
def Fm.near(f:Fm):Bool:=(f.tms 0).all fun p=>p.1.near
def Fm.nearE(f:Fm):Bool:=(f.tms 0).all fun p=>p.1.nearE
def Fm.put(f:Fm)(at_:Int)(s:Tm):Fm:=f.re (fun b t=>t.re (y5 (at_+b) s) 0) 0
def yo(f:Fm)(at_:Int)(s:Tm):Int:=
 if f.err≠0 then f.err else if ¬(0≤at_∧at_≤4096) then 1 else if s.err≠0 then s.err else if f.near=false∨s.near=false then 1 else if(f.size:Int)+wu at_ (f.tms 0)*(s.size-1)>4096 then 4 else 0
def Ycf(n:Int):List Tm→Int→Fm→Fm×Int
 |[],_,f=>(f,0)
 |t::l,k,f=>
  if Zsg t 0 (n-1-k)≠0 then(noFm,Zsg t 0 (n-1-k))
  else if yo f 0 (t.re (zq 0 (n-1-k)) 0)≠0 then(noFm,yo f 0 (t.re (zq 0 (n-1-k)) 0))
  else Ycf n l (k+1) (f.put 0 (t.re (zq 0 (n-1-k)) 0))
def fill(p:Fm)(l:List Tm):Fm×Int:=if p.err≠0 then(noFm,p.err) else if 16<l.length then(noFm,1) else Ycf l.length l 0 p
theorem Zdf(t:Tm):t.shape=true→t.full≤65*t.size:=by
 induction t using Tm.ind with
 |h t ih=>
  intro hs
  rw[Tm.shape_eq,Bool.and_eq_true] at hs
  have h0:t.ty.size≤64:=by
   have:=hs.1
   simp only[Tm.head,Bool.and_eq_true] at this
   have h1:=this.2
   cases hk:xu t.kind with
   |true=>rw[hk] at h1;simp only[cond_true,Ty.ok,Bool.and_eq_true,decide_eq_true_eq] at h1;exact h1.2
   |false=>
    rw[hk] at h1
    have:=Ty.no_of (show t.ty.isNo=true from h1)
    rw[this];decide
  have h1:∀l:List Tm,(∀x∈l,x∈t.args)→(l.map Tm.full).sum≤65*(l.map Tm.size).sum:=by
   intro l
   induction l with
   |nil=>intro _;simp
   |cons x l ih2=>
    intro h
    have h2:=ih2 fun y hy=>h y (by simp[hy])
    have hx:=h x (by simp)
    have h3:=ih x hx (List.all_eq_true.1 hs.2 x hx)
    simp only[List.map_cons,List.sum_cons];omega
  have h2:=h1 t.args fun _ h=>h
  rw[Tm.full_eq,Tm.size_eq];omega
theorem Zak(f:Fm):f.shape=true→f.full≤65*f.size:=by
 induction f using Fm.ind with
 |h f ih=>
  intro hs
  rw[Fm.shape_eq,Bool.and_eq_true,Bool.and_eq_true] at hs
  obtain⟨⟨hh,ht⟩,ha⟩:=hs
  have h0:f.ty.size≤64:=by
   simp only[Fm.head] at hh
   split at hh
   ·simp only[Bool.and_eq_true] at hh;rw[Ty.no_of hh.1.1];decide
   ·split at hh
    ·simp only[Bool.and_eq_true] at hh;rw[Ty.no_of hh.1.1];decide
    ·split at hh
     ·simp only[Bool.and_eq_true,Ty.ok,decide_eq_true_eq] at hh;exact hh.1.1.2
     ·cases hh
  have h1:∀l:List Fm,(∀x∈l,x∈f.args)→(l.map Fm.full).sum≤65*(l.map Fm.size).sum:=by
   intro l
   induction l with
   |nil=>intro _;simp
   |cons x l ih2=>
    intro h
    have h2:=ih2 fun y hy=>h y (by simp[hy])
    have hx:=h x (by simp)
    have h3:=ih x hx (List.all_eq_true.1 ha x hx)
    simp only[List.map_cons,List.sum_cons];omega
  have h2:∀l:List Tm,(∀x∈l,x∈f.terms)→(l.map Tm.full).sum≤65*(l.map Tm.size).sum:=by
   intro l
   induction l with
   |nil=>intro _;simp
   |cons x l ih2=>
    intro h
    have h2:=ih2 fun y hy=>h y (by simp[hy])
    have hx:=h x (by simp)
    have h3:=Zdf x (List.all_eq_true.1 ht x hx)
    simp only[List.map_cons,List.sum_cons];omega
  have h3:=h1 f.args fun _ h=>h
  have h4:=h2 f.terms fun _ h=>h
  rw[Fm.full_eq,Fm.size_eq];omega
theorem yr{f:Fm}(h:f.err=0):f.full≤266240:=by
 have h1:=(Fm.err_iff f).1 h
 have:=Zak f h1.1
 omega
theorem z8{t:Tm}(h:t.err=0):t.full≤266240:=by
 have h1:=w6 h
 have:=Zdf t h1.1
 omega
theorem Zow{f:Fm}(h:f.err=0)(hn:f.near=true):∀p∈f.tms 0,∀q∈p.1.vars 0,0≤q.1∧q.1<549755813888:=fun p hp q hq=>by
 have h1:p.1.shape=true:=Zkx f ((Fm.err_iff f).1 h).1 0 p hp
 have h2:=List.all_eq_true.1 hn p hp
 have h3:=List.all_eq_true.1 h2 q hq
 simp at h3
 exact⟨p.1.vars_nonneg h1 0 q hq,by omega⟩
theorem Ztj(f:Fm):0≤f.num∧f.num≤4096:=by
 simp only[Fm.num];split
 ·rename_i h;have:=((Fm.err_iff f).1 h).2;omega
 ·omega
mutual
def Fm.same:Fm→Fm→Bool
 | .mk k h ts xs,.mk k' h' ts' ys=>k==k'&&decide (h=h')&&decide (ts=ts')&&Fm.sames xs ys
def Fm.sames:List Fm→List Fm→Bool
 |[],[]=>true
 |x::xs,y::ys=>x.same y&&Fm.sames xs ys
 |_,_=>false
end
mutual
theorem Fm.same_iff:∀a b:Fm,a.same b=true↔a=b
 | .mk k h ts xs,.mk k' h' ts' ys=>by simp only[Fm.same,Bool.and_eq_true,beq_iff_eq,decide_eq_true_eq,Fm.mk.injEq,Fm.sames_iff xs ys,and_assoc]
theorem Fm.sames_iff:∀a b:List Fm,Fm.sames a b=true↔a=b
 |[],[]=>by simp[Fm.sames]
 |x::xs,y::ys=>by simp only[Fm.sames,Bool.and_eq_true,List.cons.injEq,Fm.same_iff x y,Fm.sames_iff xs ys]
 |[],_::_=>by simp[Fm.sames]
 |_::_,[]=>by simp[Fm.sames]
end
instance:DecidableEq Fm:=fun a b=>decidable_of_iff _ (Fm.same_iff a b)
theorem re_congr{g g':Int→Int→Tm}(t:Tm):∀b,(∀p∈t.vars b,g p.1 p.2=g' p.1 p.2)→t.re g b=t.re g' b:=by
 induction t using Tm.ind with
 |h t ih=>
  intro b h
  by_cases h1:t.kind=1
  ·rw [vg h1,vg h1]
   exact h (t.index,b) (by rw[t.vars_eq,if_pos h1];simp)
  ·rw [y8 h1,y8 h1]
   congr 1
   exact List.map_congr_left fun x hx=>ih x hx _ fun p hp=>h p (Zdb h1 hx hp)
theorem Zv9{at_:Int}{l:List (Int×Int)}(h:cnt at_ l=0):∀p∈l,¬p.1-p.2=at_:=by
 intro p hp he
 have h1:p∈l.filter fun p=>p.1-p.2==at_:=List.mem_filter.2 ⟨hp,by simp[he]⟩
 have h2:=List.length_pos_of_mem h1
 simp only[cnt] at h
 omega
def Yel:Nat→Tm→Tm
 |0,t=>t
 |n+1,t=>(Yel n t).re (y5 0 Zbo) 0
def low(n:Nat)(t:Tm):Tm×Bool:=if ∀j,j<n→cnt 0 ((Yel j t).vars 0)=0 then(Yel n t,true) else(Zbo,false)
abbrev Zj1:=List (Int×Tm)
mutual
def mT(h b:Int):Tm→Tm→Zj1→Bool×Zj1
 | .mk k i ty as,t,m=>
   if k=1∧0≤i-b∧i-b<h then
    (if(i-b)∈m.map (·.1) then(true,m) else((low b.toNat t).2,m++[(i-b,(low b.toNat t).1)]))
   else if k=t.kind∧ty=t.ty then
    (if k=1 then(decide ((if b≤i then i-h else i)=t.index),m) else mTs h (up k b) as t.args m)
   else(false,m)
def mTs(h b:Int):List Tm→List Tm→Zj1→Bool×Zj1
 |[],_,m=>(true,m)
 |_::_,[],m=>(false,m)
 |p::ps,t::ts,m=>match mT h b p t m with|(true,m')=>mTs h b ps ts m'|(false,m')=>(false,m')
end
mutual
def mF(h b:Int):Fm→Fm→Zj1→Bool×Zj1
 | .mk k ty ts as,f,m=>
   if k=f.kind∧ty=f.ty then(match mTs h b ts f.terms m with|(true,m')=>mFs h (upF k b) as f.args m'|(false,m')=>(false,m'))
   else(false,m)
def mFs(h b:Int):List Fm→List Fm→Zj1→Bool×Zj1
 |[],_,m=>(true,m)
 |_::_,[],m=>(false,m)
 |p::ps,f::fs,m=>match mF h b p f m with|(true,m')=>mFs h b ps fs m'|(false,m')=>(false,m')
end
theorem Znh{t:Tm}:∀{b b':Int},∀q∈t.vars b,∃q'∈t.vars b',q'.1=q.1:=by
 induction t using Tm.ind with
 |h t ih=>
  intro b b' q hq
  rw[Tm.vars_eq,List.mem_append] at hq
  rcases hq with hq|hq
  ·by_cases h1:t.kind=1
   ·rw [if_pos h1,List.mem_singleton] at hq
    exact⟨(t.index,b'),by rw[Tm.vars_eq,if_pos h1];simp,by rw[hq]⟩
   ·rw [if_neg h1] at hq;cases hq
  ·obtain ⟨x,hx,hq⟩:=List.mem_flatMap.1 hq
   obtain⟨q',h1,h2⟩:=ih x hx (b':=up t.kind b') q hq
   exact⟨q',by rw[Tm.vars_eq];exact List.mem_append_right _ (List.mem_flatMap.2 ⟨x,hx,h1⟩),h2⟩
theorem Zue{f:Fm}:∀{b b':Int},∀q∈f.tms b,∃q'∈f.tms b',q'.1=q.1:=by
 induction f using Fm.ind with
 |h f ih=>
  intro b b' q hq
  rw[Fm.tms_eq,List.mem_append] at hq
  rcases hq with hq|hq
  ·obtain ⟨t,ht,rfl⟩:=List.mem_map.1 hq
   exact⟨(t,b'),by rw[Fm.tms_eq];exact List.mem_append_left _ (List.mem_map.2 ⟨t,ht,rfl⟩),rfl⟩
  ·obtain ⟨x,hx,hq⟩:=List.mem_flatMap.1 hq
   obtain⟨q',h1,h2⟩:=ih x hx (b':=upF f.kind b') q hq
   exact⟨q',by rw[Fm.tms_eq];exact List.mem_append_right _ (List.mem_flatMap.2 ⟨x,hx,h1⟩),h2⟩
theorem zo{f x:Fm}(h:f.shape=true)(hx:x∈f.args):x.shape=true:=by
 rw[Fm.shape_eq,Bool.and_eq_true] at h
 exact List.all_eq_true.1 h.2 x hx
theorem yd{f:Fm}(h:f.shape=true){t:Tm}(ht:t∈f.terms):t.shape=true:=by
 rw[Fm.shape_eq,Bool.and_eq_true,Bool.and_eq_true] at h
 exact List.all_eq_true.1 h.1.2 t ht
theorem Zt9(at_:Int)(s:Tm)(hs:s.shape=true)(f:Fm):f.shape=true→∀b,(f.re (fun b t=>t.re (y5 (at_+b) s) 0) b).full≤f.full+wu at_ (f.tms b)*s.full:=by
 induction f using Fm.ind with
 |h f ih=>
  intro hf b
  have e3:(f.re (fun b t=>t.re (y5 (at_+b) s) 0) b).full=1+f.ty.size+((f.terms.map fun t=>t.re (y5 (at_+b) s) 0).map Tm.full).sum+((f.args.map (Fm.re (fun b t=>t.re (y5 (at_+b) s) 0) (upF f.kind b))).map Fm.full).sum:=by
   rw[Fm.re_eq,Fm.full_eq];rfl
  rw[e3,f.full_eq,Fm.tms_eq,yu,Nat.add_mul,List.map_map,List.map_map]
  have h1:∀l:List Tm,(∀x∈l,x∈f.terms)→(l.map (Tm.full∘fun t=>t.re (y5 (at_+b) s) 0)).sum≤(l.map Tm.full).sum+wu at_ (l.map fun t=>(t,b))*s.full:=by
   intro l
   induction l with
   |nil=>intro _;simp
   |cons x l ihl=>
    intro hl
    have h2:=Zwx (at_+b) s x hs 0 (yd hf (hl x (by simp)))
    have h3:=ihl fun y hy=>hl y (by simp[hy])
    simp only[List.map_cons,List.sum_cons,Function.comp_apply,wu,Nat.add_mul]
    omega
  have h2:∀l:List Fm,(∀x∈l,x∈f.args)→(l.map (Fm.full∘Fm.re (fun b t=>t.re (y5 (at_+b) s) 0) (upF f.kind b))).sum≤(l.map Fm.full).sum+wu at_ (l.flatMap (Fm.tms (upF f.kind b)))*s.full:=by
   intro l
   induction l with
   |nil=>intro _;simp
   |cons x l ihl=>
    intro hl
    have h2:=ih x (hl x (by simp)) (zo hf (hl x (by simp))) (upF f.kind b)
    have h3:=ihl fun y hy=>hl y (by simp[hy])
    simp only[List.map_cons,List.sum_cons,Function.comp_apply,List.flatMap_cons,yu,Nat.add_mul]
    omega
  have h3:=h1 f.terms fun _ h=>h
  have h4:=h2 f.args fun _ h=>h
  omega
theorem Zb8{f:Fm}{at_:Int}{s:Tm}(h:yo f at_ s=0):f.err=0∧s.err=0∧f.near=true∧s.near=true∧(f.size:Int)+wu at_ (f.tms 0)*(s.size-1)≤4096:=by
 simp only[yo] at h
 split at h
 ·rename_i h1;exact absurd h h1
 ·rename_i h1
  split at h
  ·omega
  ·split at h
   ·rename_i h2;exact absurd h h2
   ·rename_i h2
    split at h
    ·omega
    ·rename_i h3
     split at h
     ·omega
     ·rename_i h4
      refine⟨Classical.not_not.1 h1,Classical.not_not.1 h2,?_,?_,by omega⟩
      ·cases hn:f.near with
       |true=>rfl
       |false=>exact absurd (.inl hn) h3
      ·cases hn:s.near with
       |true=>rfl
       |false=>exact absurd (.inr hn) h3
theorem Zq2{f:Fm}{at_:Int}{s:Tm}(h:yo f at_ s=0):(f.put at_ s).full≤1200000000:=by
 obtain⟨h1,h2,_,_,_⟩:=Zb8 h
 have h3:=Zt9 at_ s (w6 h2).1 f ((Fm.err_iff f).1 h1).1 0
 have h4:=yr h1
 have h5:=z8 h2
 have h6:=Zej at_ (f.tms 0)
 have h7:=Zfj f 0
 have h8:=((Fm.err_iff f).1 h1).2
 have h9:wu at_ (f.tms 0)*s.full≤4096*266240:=Nat.mul_le_mul (by omega) h5
 show(f.re _ 0).full≤_
 omega
def Zvd:Zj1→Int→Option Tm
 |[],_=>none
 |p::m,k=>if p.1=k then some p.2 else Zvd m k
def Ye4:Tm:= .mk 4 0 (.mk 0 []) []
def Yd9(m:Zj1)(n:Nat):List Tm:=(List.range n).map fun k:Nat=>(Zvd m (k:Int)).getD Ye4
def matchF(p:Fm)(h:Int)(f:Fm):List Tm×Int:=
 if p.err≠0 then([],p.err) else if f.err≠0 then([],f.err) else if ¬(0≤h∧h≤16)∨p.nearE=false∨f.nearE=false then([],1)
 else if(mF h 0 p f []).1=false then([],11)
 else if(fill p (Yd9 (mF h 0 p f []).2 h.toNat)).2≠0∨(fill p (Yd9 (mF h 0 p f []).2 h.toNat)).1≠f then([],11)
 else if((mF h 0 p f []).2.length:Int)<h then([],13) else(Yd9 (mF h 0 p f []).2 h.toNat,0)
theorem Zph(g g':Int→Int→Tm)(t:Tm):∀b,(t.re g b).re g' b=t.re (fun i c=>(g i c).re g' c) b:=by
 induction t using Tm.ind with
 |h t ih=>
  intro b
  by_cases h1:t.kind=1
  ·rw [vg h1,vg h1]
  ·rw [y8 h1,y8 h1,y8 (t:=Tm.mk _ _ _ _) (by simpa using h1)]
   simp only[Tm.kind_mk,Tm.index_mk,Tm.ty_mk,Tm.args_mk,List.map_map]
   congr 1
   exact List.map_congr_left fun x hx=>ih x hx _
theorem Zqi(g:Int→Int→Tm)(t:Tm):∀b,t.shape=true→(t.re g b).vars b=(t.vars b).flatMap fun p=>(g p.1 p.2).vars p.2:=by
 induction t using Tm.ind with
 |h t ih=>
  intro b hs
  by_cases h1:t.kind=1
  ·rw [vg h1,vt hs h1];simp
  ·rw [y8 h1,uz h1,uz (t:=Tm.mk _ _ _ _) (by simpa using h1)]
   simp only[Tm.kind_mk,Tm.args_mk,List.flatMap_assoc,List.flatMap_map]
   have:∀l:List Tm,(∀x∈l,x∈t.args)→l.flatMap (fun x=>(x.re g (up t.kind b)).vars (up t.kind b))=l.flatMap fun x=>(x.vars (up t.kind b)).flatMap fun p=>(g p.1 p.2).vars p.2:=by
    intro l
    induction l with
    |nil=>intro _;rfl
    |cons x l ihl=>
     intro h
     rw[List.flatMap_cons,List.flatMap_cons,ihl fun y hy=>h y (by simp[hy]),ih x (h x (by simp)) _ (zd hs x (h x (by simp)))]
   exact this t.args fun _ h=>h
theorem Ztg(k b c:Int):up k (b+c)=up k b+c:=by simp only[up];split<;>omega
theorem Zay(t:Tm):∀b c:Int,t.vars (b+c)=(t.vars b).map fun p=>(p.1,p.2+c):=by
 induction t using Tm.ind with
 |h t ih=>
  intro b c
  rw[t.vars_eq,t.vars_eq,List.map_append,Ztg]
  congr 1
  ·split<;>rfl
  ·rw [List.map_flatMap]
   have:∀l:List Tm,(∀x∈l,x∈t.args)→l.flatMap (Tm.vars (up t.kind b+c))=l.flatMap fun x=>(x.vars (up t.kind b)).map fun p=>(p.1,p.2+c):=by
    intro l
    induction l with
    |nil=>intro _;rfl
    |cons x l ihl=>
     intro h
     rw[List.flatMap_cons,List.flatMap_cons,ihl fun y hy=>h y (by simp[hy]),ih x (h x (by simp))]
   exact this t.args fun _ h=>h
theorem re_shift(g:Int→Int→Tm)(c:Int)(t:Tm):∀b,t.re g (b+c)=t.re (fun i d=>g i (d+c)) b:=by
 induction t using Tm.ind with
 |h t ih=>
  intro b
  by_cases h1:t.kind=1
  ·rw [vg h1,vg h1]
  ·rw [y8 h1,y8 h1,Ztg]
   congr 1
   exact List.map_congr_left fun x hx=>ih x hx _
theorem vx(g:Int→Int→Tm)(c:Int)(t:Tm):t.re g c=t.re (fun i d=>g i (d+c)) 0:=by
 have:=re_shift g c t 0
 rwa [Int.zero_add] at this
theorem Zek(j:Int)(g:Int→Int→Tm)(c:Int):(vT j).re g c=g j c:=by rw[vg (show(vT j).kind=1 from rfl)];rfl
theorem Zs0(j c:Int):(vT j).vars c=[(j,c)]:=by simp[vT,Tm.vars,Tm.varss]
theorem xr(fr by_ i b:Int):zq fr by_ i b=vT (if i-b≥fr then i+by_ else i):=rfl
theorem Zad(at_:Int)(s:Tm)(i b:Int):y5 at_ s i b=if i-b=at_ then s.re (zq 0 (at_+b)) 0 else vT (if i-b>at_ then i-1 else i):=rfl
theorem Yeq{g:Int→Int→Tm}(t:Tm):∀b,t.shape=true→(∀p∈t.vars b,g p.1 p.2=vT p.1)→t.re g b=t:=by
 induction t using Tm.ind with
 |h t ih=>
  intro b hs hg
  by_cases h1:t.kind=1
  ·rw [vg h1]
   have h2:=hg (t.index,b) (by rw[vt hs h1];simp)
   rw[h2]
   exact(Zhz hs h1).symm
  ·rw [y8 h1]
   have h2:t.args.map (Tm.re g (up t.kind b))=t.args:=by
    conv=>rhs;rw[←List.map_id t.args]
    exact List.map_congr_left fun x hx=>ih x hx _ (zd hs x hx) fun p hp=>hg p (Zdb h1 hx hp)
   rw[h2];cases t;rfl
theorem Zsr(fr by_:Int)(t:Tm)(b:Int)(hs:t.shape=true):(t.re (zq fr by_) b).vars b=(t.vars b).map fun p=>(if p.1-p.2≥fr then p.1+by_ else p.1,p.2):=by
 rw[Zqi _ _ _ hs]
 simp only[xr,Zs0]
 rw[List.map_eq_flatMap]
def simG(l:List Tm)(i b:Int):Tm:=if i<b then vT i else if i-b<l.length then(l.getD (i-b).toNat Zbo).re (zq 0 b) 0 else vT (i-l.length)
def simT(l:List Tm)(b:Int)(t:Tm):Tm:=t.re (simG l) b
theorem Fm.re_congr{G G':Int→Tm→Tm}(f:Fm):∀b,(∀p∈f.tms b,G p.2 p.1=G' p.2 p.1)→f.re G b=f.re G' b:=by
 induction f using Fm.ind with
 |h f ih=>
  intro b h
  rw[Fm.re_eq,Fm.re_eq]
  congr 1
  ·exact List.map_congr_left fun x hx=>h (x,b) (by rw[Fm.tms_eq];exact List.mem_append_left _ (List.mem_map.2 ⟨x,hx,rfl⟩))
  ·exact List.map_congr_left fun x hx=>ih x hx _ fun p hp=>h p (by rw[Fm.tms_eq];exact List.mem_append_right _ (List.mem_flatMap.2 ⟨x,hx,hp⟩))
theorem Zhw(k b:Int):b≤upF k b∧upF k b≤b+1:=by simp only[upF];split<;>omega
theorem Zq5{f:Fm}:∀{b:Int},∀p∈f.tms b,b≤p.2:=by
 induction f using Fm.ind with
 |h f ih=>
  intro b p hp
  rw[Fm.tms_eq,List.mem_append] at hp
  rcases hp with hp|hp
  ·obtain ⟨t,_,rfl⟩:=List.mem_map.1 hp;exact Int.le_refl _
  ·obtain ⟨x,hx,hp⟩:=List.mem_flatMap.1 hp
   have:=ih x hx p hp
   have:=Zhw f.kind b
   omega
def Fm.sim(l:List Tm)(b:Int)(f:Fm):Fm:=f.re (simT l) b
theorem Zcl{f:Fm}{at_:Int}{s:Tm}(ha:0≤at_)(hs:s.shape=true)(hf:f.shape=true):(f.put at_ s).shape=true:=by
 have key:∀(f:Fm) (b:Int),0≤b→f.shape=true→(f.re (fun b t=>t.re (y5 (at_+b) s) 0) b).shape=true:=by
  intro f
  induction f using Fm.ind with
  |h f ih=>
   intro b hb hf
   have h0:=hf
   rw[Fm.shape_eq,Bool.and_eq_true,Bool.and_eq_true] at h0
   obtain⟨⟨h1,h2⟩,h3⟩:=h0
   rw[Fm.re_eq,Fm.shape_eq,Bool.and_eq_true,Bool.and_eq_true]
   refine⟨⟨?_,?_⟩,?_⟩
   ·simp only[Fm.head,Fm.kind_mk,Fm.ty_mk,Fm.terms_mk,Fm.args_mk,List.length_map] at h1 ⊢
    exact h1
   ·rw [Fm.terms_mk,List.all_eq_true]
    intro y hy
    obtain⟨x,hx,rfl⟩:=List.mem_map.1 hy
    exact Zd6 0 hs (List.all_eq_true.1 h2 x hx) (by omega) (by omega) fun p hp=>uj x 0 p hp
   ·rw [Fm.args_mk,List.all_eq_true]
    intro y hy
    obtain⟨x,hx,rfl⟩:=List.mem_map.1 hy
    have:=Zhw f.kind b
    exact ih x hx _ (by omega) (List.all_eq_true.1 h3 x hx)
 exact key f 0 (by omega) hf
def NewK(h:Int)(vs:List (Int×Int))(m m':Zj1):Prop:=∀k,k∈m'.map (·.1)↔k∈m.map (·.1)∨(0≤k∧k<h∧∃q∈vs,q.1-q.2=k)
theorem NewK.app{h:Int}{m m' m'':Zj1}{vs vs':List (Int×Int)}(h1:NewK h vs m m')(h2:NewK h vs' m' m''):NewK h (vs++vs') m m'':=fun k=>by
 rw[h2 k,h1 k]
 constructor
 ·rintro ((h3|⟨h3,h4,q,hq,h5⟩)|⟨h3,h4,q,hq,h5⟩)
  ·exact .inl h3
  ·exact .inr ⟨h3,h4,q,List.mem_append_left _ hq,h5⟩
  ·exact .inr ⟨h3,h4,q,List.mem_append_right _ hq,h5⟩
 ·rintro (h3|⟨h3,h4,q,hq,h5⟩)
  ·exact .inl (.inl h3)
  ·rcases List.mem_append.1 hq with hq|hq
   ·exact .inl (.inr ⟨h3,h4,q,hq,h5⟩)
   ·exact .inr ⟨h3,h4,q,hq,h5⟩
def Yem(l:List (Tm×Int)):List (Int×Int):=l.flatMap fun q=>q.1.vars q.2
def GoodM(l:List Tm)(m:Zj1):Prop:=(m.map (·.1)).Nodup∧∀q∈m,0≤q.1∧q.1<l.length∧q.2=l.getD q.1.toNat Zbo
theorem Zta(n:Nat):∀(l:List Int),l.Nodup→(∀k∈l,0≤k∧k<n)→l.length≤n∧((∀k:Nat,k<n→(k:Int)∈l)↔l.length=n):=by
 induction n with
 |zero=>
  intro l _ h
  cases l with
  |nil=>simp
  |cons x l=>have:=h x (by simp);omega
 |succ n ih=>
  intro l hn h
  have h1:(l.filter (·≠(n:Int))).Nodup:=hn.filter _
  have h2:=ih _ h1 fun k hk=>by
   rw[List.mem_filter] at hk
   have:=h k hk.1
   have h3:k≠(n:Int):=by simpa using hk.2
   omega
  have hcount:l.length=(l.filter (·≠(n:Int))).length+(if(n:Int)∈l then 1 else 0):=by
   clear h2 h1 ih h
   induction l with
   |nil=>simp
   |cons x l ihl=>
    rw[List.nodup_cons] at hn
    have:=ihl hn.2
    by_cases hx:x=(n:Int)
    ·subst hx
     rw[if_neg hn.1] at this
     simp at this ⊢;omega
    ·have e:((n:Int)∈x::l)↔(n:Int)∈l:=by simp[Ne.symm hx]
     simp only[e,List.length_cons,List.filter_cons,ne_eq,hx,not_false_eq_true,decide_true,if_true]
     simp only[ne_eq] at this
     omega
  by_cases hmem:(n:Int)∈l
  ·rw [if_pos hmem] at hcount
   refine⟨by omega,?_⟩
   constructor
   ·intro h3
    have:=h2.2.1 fun k hk=>List.mem_filter.2 ⟨h3 k (by omega),by simp;omega⟩
    omega
   ·intro h3 k hk
    by_cases hkn:k=n
    ·subst hkn;exact hmem
    ·exact (List.mem_filter.1 (h2.2.2 (by omega) k (by omega))).1
  ·rw [if_neg hmem] at hcount
   refine⟨by omega,?_⟩
   constructor
   ·intro h3;exact absurd (h3 n (by omega)) hmem
   ·intro h3;omega
theorem Zsu{k:Int}{l:List (Tm×Int)}(h:wu k l=0):∀p∈l,cnt (k+p.2) (p.1.vars 0)=0:=by
 induction l with
 |nil=>intro p hp;cases hp
 |cons q l ih=>
  simp only[wu] at h
  intro p hp
  rcases List.mem_cons.1 hp with rfl|hp
  ·omega
  ·exact ih (by omega) p hp
theorem Zbq(at_:Int)(s:Tm)(hs:s.shape=true)(f:Fm):f.shape=true→∀b,(f.re (fun b t=>t.re (y5 (at_+b) s) 0) b).size=f.size+wu at_ (f.tms b)*(s.size-1):=by
 induction f using Fm.ind with
 |h f ih=>
  intro hf b
  have e3:(f.re (fun b t=>t.re (y5 (at_+b) s) 0) b).size=1+((f.terms.map fun t=>t.re (y5 (at_+b) s) 0).map Tm.size).sum+((f.args.map (Fm.re (fun b t=>t.re (y5 (at_+b) s) 0) (upF f.kind b))).map Fm.size).sum:=by
   rw[Fm.re_eq,Fm.size_eq];rfl
  rw[e3,f.size_eq,Fm.tms_eq,yu,Nat.add_mul,List.map_map,List.map_map]
  have h1:∀l:List Tm,(∀x∈l,x∈f.terms)→(l.map (Tm.size∘fun t=>t.re (y5 (at_+b) s) 0)).sum=(l.map Tm.size).sum+wu at_ (l.map fun t=>(t,b))*(s.size-1):=by
   intro l
   induction l with
   |nil=>intro _;simp[wu]
   |cons x l ihl=>
    intro hl
    have h2:=Zfd (at_+b) s x hs 0 (yd hf (hl x (by simp)))
    have h3:=ihl fun y hy=>hl y (by simp[hy])
    simp only[List.map_cons,List.sum_cons,Function.comp_apply,wu,Nat.add_mul]
    omega
  have h2:∀l:List Fm,(∀x∈l,x∈f.args)→(l.map (Fm.size∘Fm.re (fun b t=>t.re (y5 (at_+b) s) 0) (upF f.kind b))).sum=(l.map Fm.size).sum+wu at_ (l.flatMap (Fm.tms (upF f.kind b)))*(s.size-1):=by
   intro l
   induction l with
   |nil=>intro _;simp[wu]
   |cons x l ihl=>
    intro hl
    have h2:=ih x (hl x (by simp)) (zo hf (hl x (by simp))) (upF f.kind b)
    have h3:=ihl fun y hy=>hl y (by simp[hy])
    simp only[List.map_cons,List.sum_cons,Function.comp_apply,List.flatMap_cons,yu,Nat.add_mul]
    omega
  have h3:=h1 f.terms fun _ h=>h
  have h4:=h2 f.args fun _ h=>h
  omega
theorem Zv5{f:Fm}{at_:Int}{s:Tm}(ha:0≤at_)(h:yo f at_ s=0):(f.put at_ s).err=0:=by
 obtain⟨h1,h2,_,_,h5⟩:=Zb8 h
 have hf:=(Fm.err_iff f).1 h1
 have hs:=(w6 h2).1
 refine(Fm.err_iff _).2 ⟨Zcl ha hs hf.1,?_⟩
 have h6:=Zbq at_ s hs f hf.1 0
 have hsp:=s.size_pos
 show(f.re _ 0).size≤4096
 rw[h6]
 have h7:(((wu at_ (f.tms 0)*(s.size-1):Nat)):Int)=(wu at_ (f.tms 0):Int)*(s.size-1):=by
  rw[Int.natCast_mul,Int.natCast_sub hsp];rfl
 omega
def fine(s:Tm):Prop:=s.err=0∧∀q∈s.vars 0,q.1≤1000000
mutual
def Fm.okT(g:List Ty):Fm→Prop
 | .mk k h ts as=>(∀t∈ts,t.inf g=(natT,0))∧Fm.okTs (if xi k=true then g++[h] else g) as
def Fm.okTs(g:List Ty):List Fm→Prop
 |[]=>True
 |f::l=>f.okT g∧Fm.okTs g l
end
def Ze7(g:List Ty)(f:Fm):List Ty:=if xi f.kind=true then g++[f.ty] else g
theorem Fm.okTs_iff(g:List Ty):∀l:List Fm,Fm.okTs g l↔∀x∈l,x.okT g
 |[]=>by simp[Fm.okTs]
 |f::l=>by simp only[Fm.okTs,Fm.okTs_iff g l,List.mem_cons,forall_eq_or_imp]
theorem Fm.okT_iff(g:List Ty)(f:Fm):f.okT g↔(∀t∈f.terms,t.inf g=(natT,0))∧∀x∈f.args,x.okT (Ze7 g f):=by
 cases f;simp only[Fm.okT,Fm.okTs_iff,Ze7];rfl
theorem Zdt{g:List Ty}{f:Fm}(h:xi f.kind=true):Ze7 g f=g++[f.ty]:=if_pos h
theorem Zdn{g:List Ty}{f:Fm}(h:¬xi f.kind=true):Ze7 g f=g:=if_neg h
theorem quantK_iff{k:Int}:xi k=true↔4≤k∧k≤7:=by simp[xi]
theorem Znm(d:Dk){g:List Ty}(hg:smalls g):(d.eqf g).1.okT g:=by
 have m1:=(Dk.tm_mk 3 d g natT hg ze (by omega) (by omega)).inf hg ze
 have m2:=(Dk.tm_mk 3 (Dk.tm 3 d g natT).2 g natT hg ze (by omega) (by omega)).inf hg ze
 rw[Fm.okT_iff]
 refine⟨fun t ht=> ?_,fun x hx=>by cases hx⟩
 simp only[Dk.eqf,eqF,Fm.terms_mk,List.mem_cons,List.not_mem_nil,or_false] at ht
 rcases ht with rfl|rfl
 ·exact m1
 ·exact m2
theorem Zfp{k:Int}{a b:Fm}{g:List Ty}(hk:k=2∨k=3)(ha:a.okT g)(hb:b.okT g):(vk k a b).okT g:=by
 rw[Fm.okT_iff]
 have e:Ze7 g (vk k a b)=g:=Zdn (by show ¬xi k=true;rw[quantK_iff];omega)
 rw[e]
 refine And.intro (fun t ht=>by cases ht) (fun x hx=> ?_)
 simp only[vk,Fm.args_mk,List.mem_cons,List.not_mem_nil,or_false] at hx
 rcases hx with rfl|rfl
 ·exact ha
 ·exact hb
theorem Zb4{k:Int}{s:Ty}{a:Fm}{g:List Ty}(hk:4≤k∧k≤7)(ha:a.okT (g++[s])):(quF k s a).okT g:=by
 rw[Fm.okT_iff]
 have e:Ze7 g (quF k s a)=g++[s]:=Zdt (quantK_iff.2 hk)
 rw[e]
 refine And.intro (fun t ht=>by cases ht) (fun x hx=> ?_)
 simp only[quF,Fm.args_mk,List.mem_cons,List.not_mem_nil,or_false] at hx
 subst hx;exact ha
theorem Dk.fm_okT:∀(n:Nat) (d:Dk) (g:List Ty),smalls g→(Dk.fm n d g).1.okT g:=by
 intro n
 induction n with
 |zero=>exact fun d g hg=>Znm d hg
 |succ n ih=>
  intro d g hg
  have h2:=Dk.next_bd (((d.next 9).2.type 0).2) 2 (by omega)
  have s1:=Dk.type1 (d.next 9).2
  have s0:=Dk.type0 (d.next 9).2
  have s0':=zp s0.1 s0.2
  simp only[Dk.fm]
  repeat' split
  ·exact Zfp (.inl rfl) (ih _ _ hg) (ih _ _ hg)
  ·exact Zfp (.inr rfl) (ih _ _ hg) (ih _ _ hg)
  ·exact Zb4 ⟨by omega,by omega⟩ (ih _ _ (zl hg (zg s1 zj)))
  ·exact Zb4 ⟨by omega,by omega⟩ (ih _ _ (zl hg (zg s1 zj)))
  ·exact Zb4 ⟨by omega,by omega⟩ (ih _ _ (zl hg (zg s0' zj)))
  ·exact Znm _ hg
theorem Zi0(at_:Int)(s:Tm)(g:List Ty)(σ:Ty)(hs:s.shape=true)(hσ:s.inf g=(σ,0))(f:Fm):∀(h:List Ty) (b:Int),(h.length:Int)=at_+b→f.shape=true→f.okT (g++[σ]++h)→
 (f.re (fun b t=>t.re (y5 (at_+b) s) 0) b).okT (g++h):=by
 induction f using Fm.ind with
 |h f ih=>
  intro h b hb hf hok
  rw[Fm.okT_iff] at hok
  rw[Fm.re_eq,Fm.okT_iff]
  simp only[Fm.terms_mk,Fm.args_mk]
  refine⟨fun y hy=> ?_,fun y hy=> ?_⟩
  ·obtain ⟨x,hx,rfl⟩:=List.mem_map.1 hy
   rw[Zmi x s g h σ (at_+b) 0 (yd hf hx) hs (by omega) hσ]
   exact hok.1 x hx
  ·obtain ⟨x,hx,rfl⟩:=List.mem_map.1 hy
   have h1:=hok.2 x hx
   by_cases hq:xi f.kind=true
   ·rw [Zdt hq] at h1
    rw[show ∀ts as,Ze7 (g++h) (Fm.mk f.kind f.ty ts as)=g++h++[f.ty] from fun ts as=>Zdt (f:=Fm.mk f.kind f.ty ts as) hq]
    have e:upF f.kind b=b+1:=if_pos hq
    rw[e,List.append_assoc]
    rw[List.append_assoc] at h1
    exact ih x hx (h++[f.ty]) (b+1) (by simp;omega) (zo hf hx) h1
   ·rw [Zdn hq] at h1
    rw[show ∀ts as,Ze7 (g++h) (Fm.mk f.kind f.ty ts as)=g++h from fun ts as=>Zdn (f:=Fm.mk f.kind f.ty ts as) hq]
    have e:upF f.kind b=b:=if_neg hq
    rw[e]
    exact ih x hx h b hb (zo hf hx) h1
theorem Zgg{f:Fm}:∀{g:List Ty} {b:Int},f.okT g→f.shape=true→∀q∈f.tms b,∀v∈q.1.vars 0,v.1<g.length+f.size:=by
 induction f using Fm.ind with
 |h f ih=>
  intro g b hok hf q hq v hv
  have e:=f.size_eq
  rw[Fm.okT_iff] at hok
  rw[Fm.tms_eq,List.mem_append] at hq
  rcases hq with hq|hq
  ·obtain ⟨t,ht,rfl⟩:=List.mem_map.1 hq
   have h1:=zb Tm.size ht
   have h2:=hok.1 t ht
   exact Za1 t g 0 _ (by rw[h2]) (yd hf ht) (by omega) v hv
  ·obtain ⟨x,hx,hq⟩:=List.mem_flatMap.1 hq
   have h1:=zb Fm.size hx
   have h2:=ih x hx (hok.2 x hx) (zo hf hx) q hq v hv
   have h3:(Ze7 g f).length≤g.length+1:=by simp only[Ze7];split<;>simp
   omega
theorem Zrc{f:Fm}{g:List Ty}(h:f.okT g)(he:f.err=0)(hg:g.length≤1000):f.near=true∧f.nearE=true:=by
 have h1:=(Fm.err_iff f).1 he
 refine⟨List.all_eq_true.2 fun q hq=>List.all_eq_true.2 fun v hv=> ?_,List.all_eq_true.2 fun q hq=>List.all_eq_true.2 fun v hv=> ?_⟩
 ·have:=Zgg h h1.1 q hq v hv;simp;omega
 ·have:=Zgg h h1.1 q hq v hv;simp;omega
def Dk.pat(g:List Ty)(d:Dk):Nat→List Ty×List Tm×Dk
 |0=>(g,[],d)
 |n+1=>((Dk.pat g d n).1++[((Dk.pat g d n).2.2.type 0).1],(Dk.tm 4 ((Dk.pat g d n).2.2.type 0).2 g ((Dk.pat g d n).2.2.type 0).1).1::(Dk.pat g d n).2.1,(Dk.tm 4 ((Dk.pat g d n).2.2.type 0).2 g ((Dk.pat g d n).2.2.type 0).1).2)
theorem Zib{α:Type}{f:α→Nat}{l:List α}(h:∀j (hj:j<l.length),f l[j]=0):(l.map f).sum=0:=by
 induction l with
 |nil=>rfl
 |cons x l ih=>
  have h0:=h 0 (by simp)
  have h1:=ih fun j hj=>by have:=h (j+1) (by simp;omega);simpa using this
  simp only[List.map_cons,List.sum_cons]
  simp only[List.getElem_cons_zero] at h0
  omega
theorem Zm7{α:Type}{f:α→Nat}{l:List α}{m:Nat}(hm:m<l.length)(h:f l[m]≠0):(l.map f).sum≠0:=by
 have:=zb f (List.getElem_mem hm)
 omega
def xg(most:Int)(t:Tm):Bool:=(t.vars 0).all fun p=>decide (p.1≤most)
theorem Ztt(most b:Int)(t:Tm):(t.vars b).all (fun p=>decide (p.1≤most))=xg most t:=by
 have h:=Zay t 0 b
 rw[Int.zero_add] at h
 rw[h,List.all_map];rfl
theorem Zjh{α β:Type}(f:α→List β)(p:β→Bool)(l:List α):(l.flatMap f).all p=l.all fun x=>(f x).all p:=by
 induction l with
 |nil=>rfl
 |cons x l ih=>rw[List.flatMap_cons,List.all_append,ih,List.all_cons]
theorem Zrw{most:Int}(h0:0≤most){t:Tm}(hs:t.shape=true):xg most t=(decide (t.index≤most)&&t.args.all (xg most)):=by
 simp only[xg]
 by_cases h1:t.kind=1
 ·rw [vt hs h1,um hs h1];simp
 ·rw [uz h1,Zjh,(Zbg hs).2 h1,decide_eq_true h0,Bool.true_and]
  congr 1
  funext x
  exact Ztt most _ x
theorem Zh6(t:Tm):t.near=xg 536870912 t:=rfl
def u2(most:Int)(f:Fm):Bool:=(f.tms 0).all fun p=>xg most p.1
theorem Zsm(most:Int)(f:Fm):u2 most f=(f.terms.all (xg most)&&f.args.all (u2 most)):=by
 have key:∀(f:Fm) (b:Int),(f.tms b).all (fun p=>xg most p.1)=u2 most f:=by
  intro f
  induction f using Fm.ind with
  |h f ih=>
   intro b
   have e:∀b,(f.tms b).all (fun p=>xg most p.1)=(f.terms.all (xg most)&&f.args.all (u2 most)):=fun b=>by
    rw[Fm.tms_eq,List.all_append,List.all_map,Zjh]
    congr 1
    have:∀l:List Fm,(∀x∈l,x∈f.args)→(l.all fun x=>(x.tms (upF f.kind b)).all fun p=>xg most p.1)=l.all (u2 most):=by
     intro l
     induction l with
     |nil=>intro _;rfl
     |cons x l ihl=>intro h;rw[List.all_cons,List.all_cons,ih x (h x (by simp)),ihl fun y hy=>h y (by simp[hy])]
    exact this f.args fun _ h=>h
   rw[e b,←e 0];rfl
 have e:u2 most f=(f.tms 0).all fun p=>xg most p.1:=rfl
 rw[e,Fm.tms_eq,List.all_append,List.all_map,Zjh]
 congr 1
 have:(fun x:Fm=>(x.tms (upF f.kind 0)).all fun p=>xg most p.1)=u2 most:=by funext x;exact key x _
 rw[this]
theorem Zms(f:Fm):f.near=u2 536870912 f:=rfl
theorem Zzj(k fr by_:Int)(x:Tm):x.re (zq (up k fr) by_) 0=x.re (zq fr by_) (up k 0):=by
 rw[vx (zq fr by_) (up k 0) x]
 refine re_congr x 0 fun p _=> ?_
 simp only[xr]
 congr 1
 have:up k fr=fr+up k 0:=by have:=Ztg k 0 fr;rw[Int.zero_add,Int.add_comm] at this;exact this
 rw[this]
 by_cases h:p.1-p.2≥fr+up k 0
 ·rw [if_pos h,if_pos (by omega)]
 ·rw [if_neg h,if_neg (by omega)]
theorem Zrt{fr by_:Int}{t:Tm}(h:t.kind≠1):t.re (zq fr by_) 0= .mk t.kind t.index t.ty (t.args.map fun x=>x.re (zq (up t.kind fr) by_) 0):=by
 rw[y8 h]
 congr 1
 exact List.map_congr_left fun x _=>(Zzj _ _ _ x).symm
def y1(at_:Int)(f:Fm):Nat:=wu at_ (f.tms 0)
theorem Zp5(at_:Int)(f:Fm):∀b c:Int,wu at_ (f.tms (b+c))=wu (at_+c) (f.tms b):=by
 induction f using Fm.ind with
 |h f ih=>
  intro b c
  rw[Fm.tms_eq,Fm.tms_eq,yu,yu]
  have e:upF f.kind (b+c)=upF f.kind b+c:=by simp only[upF];split<;>omega
  rw[e]
  congr 1
  ·generalize f.terms=l
   induction l with
   |nil=>rfl
   |cons x l ihl=>
    simp only[List.map_cons,wu,ihl]
    rw[show at_+(b+c)=at_+c+b by omega]
  ·have:∀l:List Fm,(∀x∈l,x∈f.args)→wu at_ (l.flatMap (Fm.tms (upF f.kind b+c)))=wu (at_+c) (l.flatMap (Fm.tms (upF f.kind b))):=by
    intro l
    induction l with
    |nil=>intro _;rfl
    |cons x l ihl=>intro h;rw[List.flatMap_cons,List.flatMap_cons,yu,yu,ih x (h x (by simp)),ihl fun y hy=>h y (by simp[hy])]
   exact this f.args fun _ h=>h
theorem Zj4{at_:Int}{f:Fm}(hs:f.shape=true):y1 at_ f=(f.terms.map (yt at_)).sum+(f.args.map (y1 (upF f.kind at_))).sum:=by
 unfold y1
 rw[Fm.tms_eq,yu]
 congr 1
 ·have:∀l:List Tm,(∀x∈l,x.shape=true)→wu at_ (l.map fun t=>(t,(0:Int)))=(l.map (yt at_)).sum:=by
   intro l
   induction l with
   |nil=>intro _;rfl
   |cons x l ih=>
    intro h
    have h1:=Zgh x at_ 0 (h x (by simp))
    simp only[List.map_cons,List.sum_cons,wu]
    rw[ih fun y hy=>h y (by simp[hy]),Int.add_zero]
    rw[Int.add_zero] at h1
    rw[h1]
  exact this f.terms fun x hx=>yd hs hx
 ·have:∀l:List Fm,wu at_ (l.flatMap (Fm.tms (upF f.kind 0)))=(l.map fun f'=>wu (upF f.kind at_) (f'.tms 0)).sum:=by
   intro l
   induction l with
   |nil=>rfl
   |cons x l ih=>
    rw[List.flatMap_cons,yu,ih,List.map_cons,List.sum_cons]
    congr 1
    have h1:=Zp5 at_ x 0 (upF f.kind 0)
    rw[Int.zero_add] at h1
    rw[h1]
    congr 1
    simp only[upF];split<;>omega
  exact this f.args
theorem Zgk(at_:Int)(f:Fm):y1 at_ f≤f.size:=by
 have h1:=Zej at_ (f.tms 0)
 have h2:=Zfj f 0
 unfold y1;omega
theorem Zyr(at_:Int)(s:Tm)(b:Int)(f:Fm):f.re (fun b t=>t.re (y5 (at_+b) s) 0) b=f.re (fun b t=>t.re (y5 at_ s) b) b:=by
 refine Fm.re_congr f b fun p _=> ?_
 rw[vx (y5 at_ s) p.2]
 refine re_congr p.1 0 fun q _=> ?_
 simp only[Zad]
 by_cases h:q.1-q.2=at_+p.2
 ·rw [if_pos h,if_pos (by omega)]
  congr 2;omega
 ·rw [if_neg h,if_neg (show ¬q.1-(q.2+p.2)=at_ by omega)]
  by_cases h2:q.1-q.2>at_+p.2
  ·rw [if_pos h2,if_pos (by omega)]
  ·rw [if_neg h2,if_neg (by omega)]
def y9{α:Type}(f:α→Int):List α→Int
 |[]=>0
 |x::l=>if f x≠0 then f x else y9 f l
theorem Za5{α:Type}{f:α→Int}:∀{l:List α} {m:Nat} (hm:m<l.length),(∀j (hj:j<l.length),j<m→f l[j]=0)→f l[m]≠0→y9 f l=f l[m]
 |[],m,hm,_,_=>by simp at hm
 |x::l,0,hm,_,h=>by simp only[y9,List.getElem_cons_zero] at h ⊢;rw[if_pos h]
 |x::l,m+1,hm,h0,h=>by
  have h1:=h0 0 (by simp) (by omega)
  simp only[List.getElem_cons_zero] at h1
  simp only[y9,List.getElem_cons_succ] at h ⊢
  rw[if_neg (by simp[h1])]
  exact Za5 (by simpa using hm) (fun j hj hjm=>by have:=h0 (j+1) (by simpa using hj) (by omega);simpa using this) h
theorem wm{α:Type}{f:α→Int}:∀{l:List α},(∀j (hj:j<l.length),j<l.length→f l[j]=0)→y9 f l=0
 |[],_=>rfl
 |x::l,h0=>by
  have h1:=h0 0 (by simp) (by simp)
  simp only[List.getElem_cons_zero] at h1
  simp only[y9]
  rw[if_neg (by simp[h1])]
  exact wm fun j hj hjm=>by have:=h0 (j+1) (by simpa using hj) (by simpa using hj);simpa using this
theorem Zcj{α:Type}{f:α→Int}{l:List α}(h:∀x∈l,f x=0):y9 f l=0:=wm fun j hj _=>h _ (List.getElem_mem hj)
def tE(g:List Ty)(t:Tm):Int:=if(Zau g t).2≠0 then(Zau g t).2 else if(Zau g t).1.kind≠1 then 7 else 0
mutual
def Fm.tyE(g:List Ty):Fm→Int
 | .mk k h ts as=>if y9 (tE g) ts≠0 then y9 (tE g) ts else Fm.tyEs (if xi k=true then g++[h] else g) as
def Fm.tyEs(g:List Ty):List Fm→Int
 |[]=>0
 |f::l=>if f.tyE g≠0 then f.tyE g else Fm.tyEs g l
end
theorem Fm.tyEs_eq(g:List Ty):∀l:List Fm,Fm.tyEs g l=y9 (Fm.tyE g) l
 |[]=>rfl
 |f::l=>by rw[Fm.tyEs,Fm.tyEs_eq g l];rfl
theorem Fm.tyE_eq(g:List Ty)(f:Fm):f.tyE g=if y9 (tE g) f.terms≠0 then y9 (tE g) f.terms else y9 (Fm.tyE (Ze7 g f)) f.args:=by
 cases f;simp only[Fm.tyE,Fm.tyEs_eq,Ze7];rfl
def ww(g:List Ty)(f:Fm):Int:=if f.err≠0 then f.err else f.tyE g
def ym(g:List Ty)(f:Fm):Int:=if y6 g≠0 then y6 g else ww g f
theorem Zzv(f:Fm):∀g:List Ty,f.okT g→f.shape=true→f.size≤4096→f.tyE g=0:=by
 induction f using Fm.ind with
 |h f ih=>
  intro g hok hs hz
  have e:=f.size_eq
  rw[Fm.okT_iff] at hok
  rw[Fm.tyE_eq]
  have h1:y9 (tE g) f.terms=0:=Zcj fun t ht=>by
   have h2:=zb Tm.size ht
   have h3:t.err=0:=(Tm.err_iff t).2 ⟨yd hs ht,by omega⟩
   have h4:Zau g t=(natT,0):=by simp only[Zau];rw[if_neg (by simp[h3]),hok.1 t ht]
   simp only[tE,h4];rfl
  rw[if_neg (by simp[h1])]
  exact Zcj fun x hx=>ih x hx _ (hok.2 x hx) (zo hs hx) (by have:=zb Fm.size hx;omega)
theorem Zgv{f:Fm}{g:List Ty}(h:f.okT g)(he:f.err=0)(hg:y6 g=0):ym g f=0:=by
 have h1:=(Fm.err_iff f).1 he
 simp only[ym,ww]
 rw[if_neg (by simp[hg]),if_neg (by simp[he])]
 exact Zzv f g h h1.1 h1.2
abbrev MSt:=Zj1×Bool
def rH(k b:Int)(t:Tm)(s:MSt):MSt:=
 if k∈s.1.map (·.1) then s else if ∀j:Nat,j<b.toNat→cnt j (t.vars 0)=0 then(s.1++[(k,t.re (zq b (-b)) 0)],s.2) else(s.1,true)
mutual
def rT(h b:Int):Tm→Tm→MSt→MSt
 | .mk k i ty as,t,s=>
   if s.2=true then s
   else if k=1∧b≤i∧i<b+h then rH (i-b) b t s
   else if k=t.kind∧(if k=1∧b+h≤i then i-h else i)=t.index∧ty=t.ty∧as.length=t.args.length then rTs h (up k b) as t.args s
   else(s.1,true)
def rTs(h b:Int):List Tm→List Tm→MSt→MSt
 |[],_,s=>s
 |_::_,[],s=>s
 |p::ps,t::ts,s=>rTs h b ps ts (rT h b p t s)
end
mutual
def rF(h b:Int):Fm→Fm→MSt→MSt
 | .mk k ty ts as,f,s=>
   if s.2=true∨k≠f.kind∨ty≠f.ty then(s.1,true) else rFs h (upF k b) as f.args (rTs h b ts f.terms s)
def rFs(h b:Int):List Fm→List Fm→MSt→MSt
 |[],_,s=>s
 |_::_,[],s=>s
 |p::ps,t::ts,s=>rFs h b ps ts (rF h b p t s)
end
def Both(r:Bool×Zj1)(s:MSt):Prop:=(r.1=true∧s=(r.2,false))∨(r.1=false∧s.2=true)
def OnceM(h:Int)(m:Zj1):Prop:=(m.map (·.1)).Nodup∧∀k∈m.map (·.1),0≤k∧k<h
def Yfe:Tm:= .mk 13 0 (.mk 0 []) []
def Zz2(m:Zj1)(n:Nat):List Tm:=(List.range n).map fun k:Nat=>(Zvd m (k:Int)).getD Yfe
def Yey(m:Zj1)(n:Nat):Bool:=(List.range n).any fun k:Nat=>(Zvd m (k:Int)).isNone
def matchR(p:Fm)(h:Int)(f:Fm):List Tm×Int:=
 if p.err≠0 then([],p.err) else if f.err≠0 then([],f.err) else if ¬(0≤h∧h≤16)∨p.nearE=false∨f.nearE=false then([],1)
 else if(rF h 0 p f ([],false)).2=true then([],11)
 else if(fill p (Zz2 (rF h 0 p f ([],false)).1 h.toNat)).2≠0∨(fill p (Zz2 (rF h 0 p f ([],false)).1 h.toNat)).1≠f then([],11)
 else if Yey (rF h 0 p f ([],false)).1 h.toNat=true then([],13) else(Zz2 (rF h 0 p f ([],false)).1 h.toNat,0)
mutual
def Ty.cn(most:Int):Ty→Int
 | .mk _ as=>Ty.cns most 1 as
def Ty.cns(most n:Int):List Ty→Int
 |[]=>n
 |x::l=>if n≤most then Ty.cns most (n+x.cn (most-n)) l else n
end
mutual
def Tm.cn(most:Int):Tm→Int
 | .mk _ _ h as=>Tm.cns most (1+h.cn (most-1)) as
def Tm.cns(most n:Int):List Tm→Int
 |[]=>n
 |x::l=>if n≤most then Tm.cns most (n+x.cn (most-n)) l else n
end
mutual
def Fm.cn(most:Int):Fm→Int
 | .mk _ h ts as=>Fm.cns most (Tm.cns most (1+h.cn (most-1)) ts) as
def Fm.cns(most n:Int):List Fm→Int
 |[]=>n
 |x::l=>if n≤most then Fm.cns most (n+x.cn (most-n)) l else n
end
theorem Ty.cn_eq(most:Int)(t:Ty):t.cn most=Ty.cns most 1 t.args:=by cases t;simp only[Ty.cn];rfl
theorem Tm.cn_eq(most:Int)(t:Tm):t.cn most=Tm.cns most (1+t.ty.cn (most-1)) t.args:=by cases t;simp only[Tm.cn];rfl
theorem Fm.cn_eq(most:Int)(t:Fm):t.cn most=Fm.cns most (Tm.cns most (1+t.ty.cn (most-1)) t.terms) t.args:=by cases t;simp only[Fm.cn];rfl
theorem Ty.cns_app(most:Int):∀(l l':List Ty) (n:Int),Ty.cns most n (l++l')=Ty.cns most (Ty.cns most n l) l'
 |[],l',n=>by simp only[List.nil_append,Ty.cns]
 |x::l,l',n=>by
  simp only[List.cons_append,Ty.cns]
  by_cases h:n≤most
  ·rw [if_pos h,if_pos h];exact Ty.cns_app most l l' _
  ·rw [if_neg h,if_neg h]
   cases l' with
   |nil=>simp only[Ty.cns]
   |cons y l'=>simp only[Ty.cns];rw[if_neg h]
theorem Tm.cns_app(most:Int):∀(l l':List Tm) (n:Int),Tm.cns most n (l++l')=Tm.cns most (Tm.cns most n l) l'
 |[],l',n=>by simp only[List.nil_append,Tm.cns]
 |x::l,l',n=>by
  simp only[List.cons_append,Tm.cns]
  by_cases h:n≤most
  ·rw [if_pos h,if_pos h];exact Tm.cns_app most l l' _
  ·rw [if_neg h,if_neg h]
   cases l' with
   |nil=>simp only[Tm.cns]
   |cons y l'=>simp only[Tm.cns];rw[if_neg h]
theorem Fm.cns_app(most:Int):∀(l l':List Fm) (n:Int),Fm.cns most n (l++l')=Fm.cns most (Fm.cns most n l) l'
 |[],l',n=>by simp only[List.nil_append,Fm.cns]
 |x::l,l',n=>by
  simp only[List.cons_append,Fm.cns]
  by_cases h:n≤most
  ·rw [if_pos h,if_pos h];exact Fm.cns_app most l l' _
  ·rw [if_neg h,if_neg h]
   cases l' with
   |nil=>simp only[Fm.cns]
   |cons y l'=>simp only[Fm.cns];rw[if_neg h]
theorem Ty.cns_stuck{most n:Int}(h:¬n≤most):∀l:List Ty,Ty.cns most n l=n
 |[]=>by simp only[Ty.cns]
 |x::l=>by simp only[Ty.cns];rw[if_neg h]
theorem Tm.cns_stuck{most n:Int}(h:¬n≤most):∀l:List Tm,Tm.cns most n l=n
 |[]=>by simp only[Tm.cns]
 |x::l=>by simp only[Tm.cns];rw[if_neg h]
theorem Fm.cns_stuck{most n:Int}(h:¬n≤most):∀l:List Fm,Fm.cns most n l=n
 |[]=>by simp only[Fm.cns]
 |x::l=>by simp only[Fm.cns];rw[if_neg h]
theorem Ty.cns_take{most n:Int}{l:List Ty}{m:Nat}(hm:m<l.length)(h:Ty.cns most n (l.take m)≤most):Ty.cns most n (l.take (m+1))=Ty.cns most n (l.take m)+l[m].cn (most-Ty.cns most n (l.take m)):=by
 rw[←List.take_append_getElem hm,Ty.cns_app];simp only[Ty.cns];rw[if_pos h]
theorem Tm.cns_take{most n:Int}{l:List Tm}{m:Nat}(hm:m<l.length)(h:Tm.cns most n (l.take m)≤most):Tm.cns most n (l.take (m+1))=Tm.cns most n (l.take m)+l[m].cn (most-Tm.cns most n (l.take m)):=by
 rw[←List.take_append_getElem hm,Tm.cns_app];simp only[Tm.cns];rw[if_pos h]
theorem Fm.cns_take{most n:Int}{l:List Fm}{m:Nat}(hm:m<l.length)(h:Fm.cns most n (l.take m)≤most):Fm.cns most n (l.take (m+1))=Fm.cns most n (l.take m)+l[m].cn (most-Fm.cns most n (l.take m)):=by
 rw[←List.take_append_getElem hm,Fm.cns_app];simp only[Fm.cns];rw[if_pos h]
theorem Ty.cns_end{most n:Int}{l:List Ty}{m:Nat}(h:¬Ty.cns most n (l.take m)≤most):Ty.cns most n l=Ty.cns most n (l.take m):=by
 conv=>lhs;rw[←List.take_append_drop m l,Ty.cns_app,Ty.cns_stuck h]
theorem Tm.cns_end{most n:Int}{l:List Tm}{m:Nat}(h:¬Tm.cns most n (l.take m)≤most):Tm.cns most n l=Tm.cns most n (l.take m):=by
 conv=>lhs;rw[←List.take_append_drop m l,Tm.cns_app,Tm.cns_stuck h]
theorem Fm.cns_end{most n:Int}{l:List Fm}{m:Nat}(h:¬Fm.cns most n (l.take m)≤most):Fm.cns most n l=Fm.cns most n (l.take m):=by
 conv=>lhs;rw[←List.take_append_drop m l,Fm.cns_app,Fm.cns_stuck h]
theorem Ty.cn_bd(t:Ty):∀most:Int,1≤t.cn most∧(t.cn most≤1∨t.cn most≤most+1)∧(t.cn most≤most→t.cn most=t.size):=by
 induction t using Ty.ind with
 |h t ih=>
  intro most
  rw[Ty.cn_eq,Ty.size_eq]
  have key:∀(l:List Ty) (n:Int),(∀x∈l,x∈t.args)→n≤Ty.cns most n l∧(Ty.cns most n l≤n∨Ty.cns most n l≤most+1)∧(Ty.cns most n l≤most→Ty.cns most n l=n+(l.map Ty.size).sum):=by
   intro l
   induction l with
   |nil=>intro n _;simp only[Ty.cns];refine⟨by omega,.inl (by omega),fun _=>by simp⟩
   |cons x l ihl=>
    intro n hx
    simp only[Ty.cns]
    by_cases h:n≤most
    ·rw [if_pos h]
     obtain⟨a1,a2,a3⟩:=ih x (hx x (by simp)) (most-n)
     obtain⟨b1,b2,b3⟩:=ihl (n+x.cn (most-n)) fun y hy=>hx y (by simp[hy])
     refine⟨by omega,by omega,fun hc=> ?_⟩
     rw[b3 hc,a3 (by omega),List.map_cons,List.sum_cons];omega
    ·rw [if_neg h];exact⟨by omega,.inl (by omega),fun hc=>absurd hc h⟩
  obtain⟨a1,a2,a3⟩:=key t.args 1 fun _ h=>h
  exact⟨by omega,by omega,fun h=>by rw[a3 h];omega⟩
theorem Tm.cn_bd(t:Tm):∀most:Int,1≤t.cn most∧(t.cn most≤2∨t.cn most≤most+2)∧(t.cn most≤most→t.cn most=t.full):=by
 induction t using Tm.ind with
 |h t ih=>
  intro most
  rw[Tm.cn_eq,Tm.full_eq]
  have key:∀(l:List Tm) (n:Int),(∀x∈l,x∈t.args)→n≤Tm.cns most n l∧(Tm.cns most n l≤n∨Tm.cns most n l≤most+2)∧(Tm.cns most n l≤most→Tm.cns most n l=n+(l.map Tm.full).sum):=by
   intro l
   induction l with
   |nil=>intro n _;simp only[Tm.cns];refine⟨by omega,.inl (by omega),fun _=>by simp⟩
   |cons x l ihl=>
    intro n hx
    simp only[Tm.cns]
    by_cases h:n≤most
    ·rw [if_pos h]
     obtain⟨a1,a2,a3⟩:=ih x (hx x (by simp)) (most-n)
     obtain⟨b1,b2,b3⟩:=ihl (n+x.cn (most-n)) fun y hy=>hx y (by simp[hy])
     refine⟨by omega,by omega,fun hc=> ?_⟩
     rw[b3 hc,a3 (by omega),List.map_cons,List.sum_cons];omega
    ·rw [if_neg h];exact⟨by omega,.inl (by omega),fun hc=>absurd hc h⟩
  obtain⟨c1,c2,c3⟩:=t.ty.cn_bd (most-1)
  obtain⟨a1,a2,a3⟩:=key t.args (1+t.ty.cn (most-1)) fun _ h=>h
  exact⟨by omega,by omega,fun h=>by rw[a3 h,c3 (by omega)];omega⟩
theorem Tm.cns_bd(most:Int):∀(l:List Tm) (n:Int),n≤Tm.cns most n l∧(Tm.cns most n l≤n∨Tm.cns most n l≤most+2)∧(Tm.cns most n l≤most→Tm.cns most n l=n+(l.map Tm.full).sum)
 |[],n=>by simp only[Tm.cns];exact⟨by omega,.inl (by omega),fun _=>by simp⟩
 |x::l,n=>by
  simp only[Tm.cns]
  by_cases h:n≤most
  ·rw [if_pos h]
   obtain⟨a1,a2,a3⟩:=x.cn_bd (most-n)
   obtain⟨b1,b2,b3⟩:=Tm.cns_bd most l (n+x.cn (most-n))
   refine⟨by omega,by omega,fun hc=> ?_⟩
   rw[b3 hc,a3 (by omega),List.map_cons,List.sum_cons];omega
  ·rw [if_neg h];exact⟨by omega,.inl (by omega),fun hc=>absurd hc h⟩
theorem Fm.cn_bd(t:Fm):∀most:Int,1≤t.cn most∧(t.cn most≤2∨t.cn most≤most+2)∧(t.cn most≤most→t.cn most=t.full):=by
 induction t using Fm.ind with
 |h t ih=>
  intro most
  rw[Fm.cn_eq,Fm.full_eq]
  have key:∀(l:List Fm) (n:Int),(∀x∈l,x∈t.args)→n≤Fm.cns most n l∧(Fm.cns most n l≤n∨Fm.cns most n l≤most+2)∧(Fm.cns most n l≤most→Fm.cns most n l=n+(l.map Fm.full).sum):=by
   intro l
   induction l with
   |nil=>intro n _;simp only[Fm.cns];refine⟨by omega,.inl (by omega),fun _=>by simp⟩
   |cons x l ihl=>
    intro n hx
    simp only[Fm.cns]
    by_cases h:n≤most
    ·rw [if_pos h]
     obtain⟨a1,a2,a3⟩:=ih x (hx x (by simp)) (most-n)
     obtain⟨b1,b2,b3⟩:=ihl (n+x.cn (most-n)) fun y hy=>hx y (by simp[hy])
     refine⟨by omega,by omega,fun hc=> ?_⟩
     rw[b3 hc,a3 (by omega),List.map_cons,List.sum_cons];omega
    ·rw [if_neg h];exact⟨by omega,.inl (by omega),fun hc=>absurd hc h⟩
  obtain⟨c1,c2,c3⟩:=t.ty.cn_bd (most-1)
  obtain⟨d1,d2,d3⟩:=Tm.cns_bd most t.terms (1+t.ty.cn (most-1))
  obtain⟨a1,a2,a3⟩:=key t.args (Tm.cns most (1+t.ty.cn (most-1)) t.terms) fun _ h=>h
  exact⟨by omega,by omega,fun h=>by rw[a3 h,d3 (by omega),c3 (by omega)];omega⟩
end Go.Ab
namespace Go.Ab
open Go
set_option linter.all false
def wsum(l:List Tm):Int:=l.foldl (fun n x=>IntKind.i64.wrap (n+x.cn 20000)) 0
end Go.Ab
namespace Go.Ab
set_option linter.all false
def vd(t:Tm):Bool:=
 if t.kind=3 then(t.arg 0).kind==2
 else if t.kind=6 then(t.arg 2).kind==4||(t.arg 2).kind==5
 else if t.kind=9 then(t.arg 2).kind==7||(t.arg 2).kind==8
 else if t.kind=11∨t.kind=12 then(t.arg 0).kind==10 else false
def Ya3(t:Tm):Tm:=
 if t.kind=3 then((t.arg 0).arg 0).re (y5 0 (t.arg 1)) 0
 else if t.kind=6 then
  if(t.arg 2).kind=4 then t.arg 0 else apT (apT (t.arg 1) ((t.arg 2).arg 0)) (.mk 6 0 t.ty [t.arg 0,t.arg 1,(t.arg 2).arg 0])
 else if t.kind=9 then
  if(t.arg 2).kind=7 then t.arg 0 else apT (apT (apT (t.arg 1) ((t.arg 2).arg 0)) ((t.arg 2).arg 1)) (.mk 9 0 t.ty [t.arg 0,t.arg 1,(t.arg 2).arg 1])
 else if t.kind=11 then(t.arg 0).arg 0 else(t.arg 0).arg 1
def Zdg(t:Tm):Int:=(Ya3 t).size-t.size
inductive RV:Tm→Tm→Prop
 |beta (i th j s b a):RV (.mk 3 i th [.mk 2 j s [b],a]) (b.re (y5 0 a) 0)
 |rz (i th x f j s):RV (.mk 6 i th [x,f,.mk 4 j s []]) x
 |rs (i th x f j s n):RV (.mk 6 i th [x,f,.mk 5 j s [n]]) (apT (apT f n) (.mk 6 0 th [x,f,n]))
 |fz (i th x f j s):RV (.mk 9 i th [x,f,.mk 7 j s []]) x
 |fs (i th x f j s h l):RV (.mk 9 i th [x,f,.mk 8 j s [h,l]]) (apT (apT (apT f h) l) (.mk 9 0 th [x,f,l]))
 |p1 (i th j s x y):RV (.mk 11 i th [.mk 10 j s [x,y]]) x
 |p2 (i th j s x y):RV (.mk 12 i th [.mk 10 j s [x,y]]) y
theorem Ztc{t:Tm}(hs:t.shape=true){k:Int}(hk:t.kind=k)(ha:arK k=some 0):∃i th,t= .mk k i th []:=by
 obtain⟨k',i,th,xs⟩:=t
 rw[Tm.shape_eq,Bool.and_eq_true] at hs
 have h:=hs.1
 simp only[Tm.head,Bool.and_eq_true,Tm.kind_mk,Tm.args_mk] at h hk
 subst hk
 rw[ha] at h
 have e:xs=[]:=List.eq_nil_of_length_eq_zero (by simpa using h.1.1.1)
 exact⟨i,th,by rw[e]⟩
theorem Zes{t:Tm}(hs:t.shape=true)(h:vd t=true):RV t (Ya3 t):=by
 unfold vd at h
 by_cases h3:t.kind=3
 ·rw [if_pos h3] at h
  obtain⟨i,th,f,a,rfl,hf,ha⟩:=Zc0 hs h3 rfl
  simp only[Tm.arg,Tm.args_mk,List.getD_cons_zero,beq_iff_eq] at h
  obtain⟨j,s,b,rfl,hb⟩:=Zao hf h rfl
  exact .beta i th j s b a
 rw[if_neg h3] at h
 by_cases h6:t.kind=6
 ·rw [if_pos h6] at h
  obtain⟨i,th,x,f,z,rfl,hx,hf,hz⟩:=Zeo hs h6 rfl
  simp only[Tm.arg,Tm.args_mk,List.getD_cons_zero,List.getD_cons_succ,Bool.or_eq_true,beq_iff_eq] at h
  rcases h with h|h
  ·obtain ⟨j,s,rfl⟩:=Ztc hz h rfl
   exact .rz i th x f j s
  ·obtain ⟨j,s,n,rfl,hn⟩:=Zao hz h rfl
   exact .rs i th x f j s n
 rw[if_neg h6] at h
 by_cases h9:t.kind=9
 ·rw [if_pos h9] at h
  obtain⟨i,th,x,f,z,rfl,hx,hf,hz⟩:=Zeo hs h9 rfl
  simp only[Tm.arg,Tm.args_mk,List.getD_cons_zero,List.getD_cons_succ,Bool.or_eq_true,beq_iff_eq] at h
  rcases h with h|h
  ·obtain ⟨j,s,rfl⟩:=Ztc hz h rfl
   exact .fz i th x f j s
  ·obtain ⟨j,s,n,l,rfl,hn,hl⟩:=Zc0 hz h rfl
   exact .fs i th x f j s n l
 rw[if_neg h9] at h
 by_cases h11:t.kind=11
 ·rw [if_pos (.inl h11)] at h
  obtain⟨i,th,p,rfl,hp⟩:=Zao hs h11 rfl
  simp only[Tm.arg,Tm.args_mk,List.getD_cons_zero,beq_iff_eq] at h
  obtain⟨j,s,x,y,rfl,hx,hy⟩:=Zc0 hp h rfl
  exact .p1 i th j s x y
 by_cases h12:t.kind=12
 ·rw [if_pos (.inr h12)] at h
  obtain⟨i,th,p,rfl,hp⟩:=Zao hs h12 rfl
  simp only[Tm.arg,Tm.args_mk,List.getD_cons_zero,beq_iff_eq] at h
  obtain⟨j,s,x,y,rfl,hx,hy⟩:=Zc0 hp h rfl
  exact .p2 i th j s x y
 ·rw [if_neg (by rintro(h|h);exact h11 h;exact h12 h)] at h;cases h
theorem Zbz{f x:Tm}(hf:f.shape=true)(hx:x.shape=true):(apT f x).shape=true:=by
 simp[apT,Tm.shape,Tm.shapes,Tm.head,arK,xu,Ty.isNo,hf,hx]
theorem Ztd{t:Tm}(hs:t.shape=true)(h:vd t=true):(Ya3 t).shape=true:=by
 have hv:=Zes hs h
 have hargs:=zd hs
 generalize Ya3 t=u at hv
 cases hv with
 |beta i th j s b a=>
  have h1:=zd (hargs (.mk 2 j s [b]) (by simp)) b (by simp)
  exact Zd6 0 (hargs a (by simp)) h1 (Int.le_refl _) (Int.le_refl _) fun p hp=>uj b 0 p hp
 |rz=>exact hargs _ (by simp)
 |fz=>exact hargs _ (by simp)
 |rs i th x f j s n=>
  have h1:=zd (hargs (.mk 5 j s [n]) (by simp)) n (by simp)
  have hx:=hargs x (by simp)
  have hf:=hargs f (by simp)
  have hh:th.ok=true:=by rw[Tm.shape_eq,Bool.and_eq_true] at hs;have:=hs.1;simp[Tm.head,xu] at this;exact this.2
  refine Zbz (Zbz hf h1) ?_
  simp[Tm.shape,Tm.shapes,Tm.head,arK,xu,hf,hx,h1,hh]
 |fs i th x f j s n l=>
  have h1:=zd (hargs (.mk 8 j s [n,l]) (by simp)) n (by simp)
  have h2:=zd (hargs (.mk 8 j s [n,l]) (by simp)) l (by simp)
  have hx:=hargs x (by simp)
  have hf:=hargs f (by simp)
  have hh:th.ok=true:=by rw[Tm.shape_eq,Bool.and_eq_true] at hs;have:=hs.1;simp[Tm.head,xu] at this;exact this.2
  refine Zbz (Zbz (Zbz hf h1) h2) ?_
  simp[Tm.shape,Tm.shapes,Tm.head,arK,xu,hf,hx,h1,h2,hh]
 |p1 i th j s _ y=>exact zd (hargs (.mk 10 j s [u,y]) (by simp)) u (by simp)
 |p2 i th j s x _=>exact zd (hargs (.mk 10 j s [x,u]) (by simp)) u (by simp)
theorem Zww{C:Int}(hC:0≤C){t u:Tm}(hs:t.shape=true)(h:RV t u)(hf:∀p∈t.vars 0,p.1-p.2≤C):∀p∈u.vars 0,p.1-p.2≤C:=by
 have hargs:=zd hs
 cases h with
 |beta i th j s b a=>
  have hb:=zd (hargs (.mk 2 j s [b]) (by simp)) b (by simp)
  have ha:=hargs a (by simp)
  intro p hp
  rw[Zqi _ _ _ hb,List.mem_flatMap] at hp
  obtain⟨q,hq,hp⟩:=hp
  have hq2:=uj b 0 q hq
  have hfb:q.1-(q.2+1)≤C:=by
   refine hf (q.1,q.2+1) ?_
   have e:b.vars 1=(b.vars 0).map fun p=>(p.1,p.2+1):=by have:=Zay b 0 1;simpa using this
   have hm:(q.1,q.2+1)∈b.vars 1:=by rw[e];exact List.mem_map.2 ⟨q,hq,rfl⟩
   simp[Tm.vars,Tm.varss,up]
   exact .inl hm
  rw[Zad] at hp
  by_cases h0:q.1-q.2=0
  ·rw [if_pos h0] at hp
   have e:(a.re (zq 0 (0+q.2)) 0).vars q.2=((a.re (zq 0 q.2) 0).vars 0).map fun p=>(p.1,p.2+q.2):=by have:=Zay (a.re (zq 0 (0+q.2)) 0) 0 q.2;simpa using this
   rw[e,Zsr _ _ _ _ ha,List.map_map,List.mem_map] at hp
   obtain⟨r,hr,rfl⟩:=hp
   have hfa:=hf r (by
    simp only[Tm.vars,Tm.varss,up,List.mem_append]
    simp[hr])
   simp only[Function.comp_apply]
   split<;>omega
  ·rw [if_neg h0,Zs0] at hp
   simp only[List.mem_singleton] at hp
   subst hp
   simp only
   split<;>omega
 |rz i th x f j s=>intro p hp;refine hf p ?_;simp[Tm.vars,Tm.varss,up,hp]
 |fz i th x f j s=>intro p hp;refine hf p ?_;simp[Tm.vars,Tm.varss,up,hp]
 |rs i th x f j s n=>
  intro p hp
  refine hf p ?_
  simp[apT,Tm.vars,Tm.varss,up] at hp ⊢
  rcases hp with h|h|h|h|h<;>simp[h]
 |fs i th x f j s n l=>
  intro p hp
  refine hf p ?_
  simp[apT,Tm.vars,Tm.varss,up] at hp ⊢
  rcases hp with h|h|h|h|h|h<;>simp[h]
 |p1 i th j s x y=>intro p hp;refine hf p ?_;simp[Tm.vars,Tm.varss,up,hp]
 |p2 i th j s x y=>intro p hp;refine hf p ?_;simp[Tm.vars,Tm.varss,up,hp]
mutual
def nxR(room:Int):Tm→Option (Tm×Bool)
 | .mk k i h xs=>if vd (.mk k i h xs)=true then some (if Zdg (.mk k i h xs)>room then(Zbo,false) else(Ya3 (.mk k i h xs),true)) else(Zpk room xs).map fun p=>(.mk k i h p.1,p.2)
def Zpk(room:Int):List Tm→Option (List Tm×Bool)
 |[]=>none
 |x::l=>match nxR room x with
  |some p=>some (p.1::l,p.2)
  |none=>(Zpk room l).map fun q=>(x::q.1,q.2)
end
theorem Zbl(room:Int)(t:Tm):nxR room t=if vd t=true then some (if Zdg t>room then(Zbo,false) else(Ya3 t,true)) else(Zpk room t.args).map fun p=>(.mk t.kind t.index t.ty p.1,p.2):=by
 cases t;simp only[nxR];rfl
theorem Zq4(room:Int):∀(xs:List Tm) (i:Nat) (hi:i<xs.length) (u:Tm×Bool),nxR room xs[i]=some u→(∀(j:Nat) (hj:j<xs.length),j<i→nxR room xs[j]=none)→Zpk room xs=some (xs.set i u.1,u.2)
 |[],i,hi,u,h,hn=>by simp at hi
 |x::l,0,hi,u,h,hn=>by
  simp only[List.getElem_cons_zero] at h
  simp only[Zpk,h];rfl
 |x::l,i+1,hi,u,h,hn=>by
  have h0:=hn 0 (by simp) (by omega)
  simp only[List.getElem_cons_zero] at h0
  have:=Zq4 room l i (by simpa using hi) u (by simpa using h) fun j hj hji=>by have:=hn (j+1) (by simpa using hj) (by omega);simpa using this
  simp only[Zpk,h0,this,Option.map_some];rfl
theorem Zkp(room:Int):∀(xs:List Tm),(∀(j:Nat) (hj:j<xs.length),j<xs.length→nxR room xs[j]=none)→Zpk room xs=none
 |[],_=>rfl
 |x::l,h=>by
  have h0:=h 0 (by simp) (by simp)
  simp only[List.getElem_cons_zero] at h0
  have:=Zkp room l fun j hj _=>by have:=h (j+1) (by simpa using hj) (by simpa using hj);simpa using this
  simp only[Zpk,h0,this];rfl
theorem Zdh(room:Int):∀(xs:List Tm) (q:List Tm×Bool),Zpk room xs=some q→∃(i:Nat) (hi:i<xs.length) (u:Tm),nxR room xs[i]=some (u,q.2)∧q.1=xs.set i u
 |[],q,h=>by simp[Zpk] at h
 |x::l,q,h=>by
  simp only[Zpk] at h
  cases hx:nxR room x with
  |some u=>rw[hx] at h;cases h;exact⟨0,by simp,u.1,by simpa using hx,rfl⟩
  |none=>
   rw[hx] at h
   simp only[Option.map_eq_some_iff] at h
   obtain⟨r,h1,rfl⟩:=h
   obtain⟨i,hi,u,h2,h3⟩:=Zdh room l r h1
   exact⟨i+1,by simpa using hi,u,by simpa using h2,by simp[h3]⟩
theorem Znw(room:Int)(t:Tm):∀u,t.shape=true→nxR room t=some (u,true)→u.shape=true∧(u.size:Int)≤t.size+room∧∀C:Int,0≤C→∀b:Int,0≤b→(∀p∈t.vars b,p.1-p.2≤C)→∀p∈u.vars b,p.1-p.2≤C:=by
 induction t using Tm.ind with
 |h t ih=>
  intro u hs h
  rw[Zbl] at h
  by_cases hr:vd t=true
  ·rw [if_pos hr] at h
   by_cases hg:Zdg t>room
   ·rw [if_pos hg] at h;simp at h
   ·rw [if_neg hg] at h
    simp at h
    subst h
    refine⟨Ztd hs hr,by simp only[Zdg] at hg;omega,fun C hC b hb hf=> ?_⟩
    have e:∀x:Tm,x.vars b=(x.vars 0).map fun p=>(p.1,p.2+b):=fun x=>by have:=Zay x 0 b;simpa using this
    rw[e] at hf ⊢
    have:=Zww (C:=C+b) (by omega) hs (Zes hs hr) fun p hp=>by have:=hf _ (List.mem_map.2 ⟨p,hp,rfl⟩);simp only at this;omega
    intro p hp
    obtain⟨q,hq,rfl⟩:=List.mem_map.1 hp
    have:=this q hq
    simp only;omega
  ·rw [if_neg hr] at h
   simp only[Option.map_eq_some_iff] at h
   obtain⟨q,h1,h2⟩:=h
   obtain⟨i,hi,v,h3,h4⟩:=Zdh room _ _ h1
   have h5:q.2=true:=by simpa using (congrArg Prod.snd h2)
   have h6:u= .mk t.kind t.index t.ty (t.args.set i v):=by rw[←h4];exact(congrArg Prod.fst h2).symm
   subst h6
   rw[h5] at h3
   have hm:=List.getElem_mem hi
   obtain⟨i1,i2,i3⟩:=ih _ hm v (zd hs _ hm) h3
   refine⟨?_,?_,?_⟩
   ·have:(Tm.mk t.kind t.index t.ty t.args).shape=true:=by cases t;exact hs
    exact Zgu this i1
   ·have:=Zl9 Tm.size v t.args i hi
    rw[Tm.size_eq,Tm.size_eq t]
    simp only[Tm.args_mk]
    omega
   ·intro C hC b hb hf p hp
    rw[Tm.vars_eq] at hp hf
    simp only[Tm.kind_mk,Tm.index_mk,Tm.args_mk,List.mem_append] at hp hf
    rcases hp with hp|hp
    ·exact hf p (.inl hp)
    ·obtain ⟨y,hy,hp⟩:=List.mem_flatMap.1 hp
     have hup:0≤up t.kind b:=by simp only[up];split<;>omega
     rcases List.mem_or_eq_of_mem_set hy with hy|hyv
     ·exact hf p (.inr (List.mem_flatMap.2 ⟨y,hy,hp⟩))
     ·rw [hyv] at hp
      exact i3 C hC _ hup (fun p hp=>hf p (.inr (List.mem_flatMap.2 ⟨_,hm,hp⟩))) p hp
def Ze3(σ:Int→Tm)(i c:Int):Tm:=if i<c then vT i else(σ (i-c)).re (zq 0 c) 0
theorem Yab(s:Tm)(m n c:Int)(hm:0≤m)(hn:m≤n):(s.re (zq 0 n) 0).re (zq m c) 0=s.re (zq 0 (n+c)) 0:=by
 rw[Zph]
 refine re_congr s 0 fun p hp=> ?_
 simp only[xr,Zek]
 congr 1
 by_cases h:p.1-p.2≥0
 ·rw [if_pos h,if_pos (by omega),if_pos h];omega
 ·rw [if_neg h,if_neg (by omega),if_neg h]
theorem Yc0(s a:Tm)(c n:Int)(hc:0≤c)(hn:c≤n):(s.re (zq 0 (n+1)) 0).re (y5 0 a) c=s.re (zq 0 n) 0:=by
 rw[vx _ c,Zph]
 refine re_congr s 0 fun p hp=> ?_
 simp only[xr,Zek,Zad]
 by_cases h:p.1-p.2≥0
 ·rw [if_pos h,if_neg (by omega),if_pos (by omega),if_pos h];congr 1;omega
 ·rw [if_neg h,if_neg (by omega),if_neg (by omega),if_neg h]
theorem Zua(s:Tm)(c d:Int):s.re (zq 0 c) d=s.re (zq d c) 0:=by
 rw[vx _ d]
 refine re_congr s 0 fun p hp=> ?_
 simp only[xr]
 congr 1
 by_cases h:p.1-p.2≥d
 ·rw [if_pos h,if_pos (by omega)]
 ·rw [if_neg h,if_neg (by omega)]
theorem Zvn(σ:Int→Tm)(a:Tm)(b c:Int)(hb:0≤b)(hc:0≤c):(a.re (zq 0 c) 0).re (fun i d=>Ze3 σ i (d+b)) c=(a.re (Ze3 σ) b).re (zq 0 c) 0:=by
 rw[vx _ c,Zph,vx (Ze3 σ) b,Zph]
 refine re_congr a 0 fun p hp=> ?_
 have h2:=uj a 0 p hp
 simp only[xr,Zek]
 by_cases h:p.1<p.2
 ·rw [if_neg (by omega)]
  simp only[Ze3]
  rw[if_pos (by omega),if_pos (by omega),Zek,xr,if_neg (by omega)]
 ·rw [if_pos (by omega)]
  simp only[Ze3]
  by_cases h3:p.1<p.2+b
  ·rw [if_pos (by omega),if_pos h3,Zek,xr,if_pos (by omega)]
  ·rw [if_neg (by omega),if_neg h3,Zua _ c,Yab _ _ _ _ h2 (by omega)]
   rw[show p.1+c-(p.2+c+b)=p.1-(p.2+b) by omega,show p.2+c+b=p.2+b+c by omega]
theorem Yaj(σ:Int→Tm)(t a:Tm)(b:Int)(hb:0≤b):(t.re (y5 0 a) 0).re (Ze3 σ) b=(t.re (Ze3 σ) (b+1)).re (y5 0 (a.re (Ze3 σ) b)) 0:=by
 rw[vx (Ze3 σ) b,Zph,vx (Ze3 σ) (b+1),Zph]
 refine re_congr t 0 fun p hp=> ?_
 have h2:=uj t 0 p hp
 by_cases h0:p.1-p.2=0
 ·have e:p.1=p.2:=by omega
  have e1:y5 0 a p.1 p.2=a.re (zq 0 p.2) 0:=by rw[Zad,if_pos h0,Int.zero_add]
  have e2:Ze3 σ p.1 (p.2+(b+1))=vT p.1:=if_pos (by omega)
  rw[e1,e2,Zek,Zad,if_pos h0,Int.zero_add,Zvn σ a b p.2 hb h2]
 ·have e1:y5 0 a p.1 p.2=vT (if p.1-p.2>0 then p.1-1 else p.1):=by rw[Zad,if_neg h0]
  rw[e1,Zek]
  by_cases h:p.1<p.2
  ·rw [if_neg (by omega)]
   simp only[Ze3]
   rw[if_pos (by omega),if_pos (by omega),Zek,Zad,if_neg (by omega),if_neg (by omega)]
  ·rw [if_pos (by omega)]
   simp only[Ze3]
   by_cases h3:p.1<p.2+(b+1)
   ·rw [if_pos (by omega),if_pos h3,Zek,Zad,if_neg h0,if_pos (by omega)]
   ·rw [if_neg (by omega),if_neg h3,show p.2+(b+1)=(p.2+b)+1 by omega,Yc0 _ _ _ _ h2 (by omega)]
    congr 2;omega
def Ye9(a:Tm)(j:Int):Tm:=if j=0 then a else vT (j-1)
def lftS(n j:Int):Tm:=vT (j+n)
theorem Zth(a t:Tm):t.re (y5 0 a) 0=t.re (Ze3 (Ye9 a)) 0:=by
 refine re_congr t 0 fun p hp=> ?_
 rw[Zad]
 simp only[Ze3,Ye9]
 by_cases h:p.1<p.2
 ·rw [if_neg (by omega),if_neg (by omega),if_pos h]
 ·rw [if_neg h]
  by_cases h0:p.1-p.2=0
  ·rw [if_pos h0,if_pos h0,Int.zero_add]
  ·rw [if_neg h0,if_neg h0,if_pos (by omega),Zek,xr,if_pos (by omega)]
   congr 1;omega
theorem Zrm(n:Int)(hn:0≤n)(t:Tm):t.re (zq 0 n) 0=t.re (Ze3 (lftS n)) 0:=by
 refine re_congr t 0 fun p hp=> ?_
 rw[xr]
 simp only[Ze3,lftS]
 by_cases h:p.1<p.2
 ·rw [if_neg (by omega),if_pos h]
 ·rw [if_neg h,if_pos (by omega),Zek,xr,if_pos (by omega)]
  congr 1;omega
mutual
inductive Par:Tm→Tm→Prop
 |node {k i h xs ys} (hp:Pars xs ys):Par (.mk k i h xs) (.mk k i h ys)
 |beta {i th j s b b' a a'} (hb:Par b b') (ha:Par a a'):Par (.mk 3 i th [.mk 2 j s [b],a]) (b'.re (y5 0 a') 0)
 |rz {i th x x' f j s} (hx:Par x x'):Par (.mk 6 i th [x,f,.mk 4 j s []]) x'
 |rs {i th x x' f f' j s n n'} (hx:Par x x') (hf:Par f f') (hn:Par n n'):Par (.mk 6 i th [x,f,.mk 5 j s [n]]) (apT (apT f' n') (.mk 6 0 th [x',f',n']))
 |fz {i th x x' f j s} (hx:Par x x'):Par (.mk 9 i th [x,f,.mk 7 j s []]) x'
 |fs {i th x x' f f' j s n n' l l'} (hx:Par x x') (hf:Par f f') (hn:Par n n') (hl:Par l l'):Par (.mk 9 i th [x,f,.mk 8 j s [n,l]]) (apT (apT (apT f' n') l') (.mk 9 0 th [x',f',l']))
 |p1 {i th j s x x' y} (hx:Par x x'):Par (.mk 11 i th [.mk 10 j s [x,y]]) x'
 |p2 {i th j s x y y'} (hy:Par y y'):Par (.mk 12 i th [.mk 10 j s [x,y]]) y'
inductive Pars:List Tm→List Tm→Prop
 |nil:Pars [] []
 |cons {x y xs ys} (h:Par x y) (hs:Pars xs ys):Pars (x::xs) (y::ys)
end
theorem Zlz:∀(xs:List Tm),(∀x∈xs,Par x x)→Pars xs xs
 |[],_=> .nil
 |x::l,h=> .cons (h x (by simp)) (Zlz l fun y hy=>h y (by simp[hy]))
theorem Par.refl(t:Tm):Par t t:=by
 induction t using Tm.ind with
 |h t ih=>obtain⟨k,i,h,xs⟩:=t;exact .node (Zlz xs ih)
theorem Zo1:∀(xs:List Tm) (i:Nat) (hi:i<xs.length) (u:Tm),Par xs[i] u→Pars xs (xs.set i u)
 |x::l,0,_,u,h=> .cons h (Zlz l fun y _=>Par.refl y)
 |x::l,i+1,hi,u,h=> .cons (Par.refl x) (Zo1 l i (by simpa using hi) u (by simpa using h))
theorem Ybi{t u:Tm}(h:RV t u):Par t u:=by
 cases h with
 |beta=>exact .beta (.refl _) (.refl _)
 |rz=>exact .rz (.refl _)
 |rs=>exact .rs (.refl _) (.refl _) (.refl _)
 |fz=>exact .fz (.refl _)
 |fs=>exact .fs (.refl _) (.refl _) (.refl _) (.refl _)
 |p1=>exact .p1 (.refl _)
 |p2=>exact .p2 (.refl _)
theorem Yc7(room:Int)(t:Tm):∀u,t.shape=true→nxR room t=some (u,true)→Par t u:=by
 induction t using Tm.ind with
 |h t ih=>
  intro u hs h
  rw[Zbl] at h
  by_cases hr:vd t=true
  ·rw [if_pos hr] at h
   by_cases hg:Zdg t>room
   ·rw [if_pos hg] at h;simp at h
   ·rw [if_neg hg] at h
    simp at h
    subst h
    exact Ybi (Zes hs hr)
  ·rw [if_neg hr] at h
   simp only[Option.map_eq_some_iff] at h
   obtain⟨q,h1,h2⟩:=h
   obtain⟨i,hi,v,h3,h4⟩:=Zdh room _ _ h1
   have h5:q.2=true:=by simpa using (congrArg Prod.snd h2)
   have h6:u= .mk t.kind t.index t.ty (t.args.set i v):=by rw[←h4];exact(congrArg Prod.fst h2).symm
   subst h6
   rw[h5] at h3
   have hm:=List.getElem_mem hi
   have:=ih _ hm v (zd hs _ hm) h3
   obtain⟨k,j,th,xs⟩:=t
   exact .node (Zo1 xs i hi v this)
mutual
theorem ub{σ σ':Int→Tm}(hσ:∀i c,0≤c→Par (Ze3 σ i c) (Ze3 σ' i c)):∀{t u:Tm},Par t u→∀b:Int,0≤b→Par (t.re (Ze3 σ) b) (u.re (Ze3 σ') b)
 |_,_,.node (k:=k) (i:=i) (h:=h) (xs:=xs) (ys:=ys) hp,b,hb=>by
  by_cases h1:k=1
  ·subst h1
   rw[vg (t:= .mk 1 i h xs) rfl,vg (t:= .mk 1 i h ys) rfl]
   exact hσ i b hb
  ·rw [y8 (t:= .mk k i h xs) h1,y8 (t:= .mk k i h ys) h1]
   exact .node (Zsj hσ hp (up k b) (by simp only[up];split<;>omega))
 |_,_,.beta (b':=b') (a':=a') h1 h2,b,hb=>by
  rw[Yaj σ' b' a' b hb]
  simp only[Tm.re,Tm.res,up]
  simp only[show ¬((3:Int)=1) by decide,show ¬((3:Int)=2) by decide,show ¬((2:Int)=1) by decide,if_false,if_true]
  exact .beta (ub hσ h1 (b+1) (by omega)) (ub hσ h2 b hb)
 |_,_,.rz h1,b,hb=>by
  simp only[Tm.re,Tm.res,up]
  simp only[show ¬((6:Int)=1) by decide,show ¬((6:Int)=2) by decide,show ¬((4:Int)=1) by decide,if_false]
  exact .rz (ub hσ h1 b hb)
 |_,_,.rs h1 h2 h3,b,hb=>by
  simp only[apT,Tm.re,Tm.res,up]
  simp only[show ¬((6:Int)=1) by decide,show ¬((6:Int)=2) by decide,show ¬((5:Int)=1) by decide,show ¬((5:Int)=2) by decide,show ¬((3:Int)=1) by decide,show ¬((3:Int)=2) by decide,if_false]
  exact .rs (ub hσ h1 b hb) (ub hσ h2 b hb) (ub hσ h3 b hb)
 |_,_,.fz h1,b,hb=>by
  simp only[Tm.re,Tm.res,up]
  simp only[show ¬((9:Int)=1) by decide,show ¬((9:Int)=2) by decide,show ¬((7:Int)=1) by decide,if_false]
  exact .fz (ub hσ h1 b hb)
 |_,_,.fs h1 h2 h3 h4,b,hb=>by
  simp only[apT,Tm.re,Tm.res,up]
  simp only[show ¬((9:Int)=1) by decide,show ¬((9:Int)=2) by decide,show ¬((8:Int)=1) by decide,show ¬((8:Int)=2) by decide,show ¬((3:Int)=1) by decide,show ¬((3:Int)=2) by decide,if_false]
  exact .fs (ub hσ h1 b hb) (ub hσ h2 b hb) (ub hσ h3 b hb) (ub hσ h4 b hb)
 |_,_,.p1 h1,b,hb=>by
  simp only[Tm.re,Tm.res,up]
  simp only[show ¬((11:Int)=1) by decide,show ¬((11:Int)=2) by decide,show ¬((10:Int)=1) by decide,show ¬((10:Int)=2) by decide,if_false]
  exact .p1 (ub hσ h1 b hb)
 |_,_,.p2 h1,b,hb=>by
  simp only[Tm.re,Tm.res,up]
  simp only[show ¬((12:Int)=1) by decide,show ¬((12:Int)=2) by decide,show ¬((10:Int)=1) by decide,show ¬((10:Int)=2) by decide,if_false]
  exact .p2 (ub hσ h1 b hb)
theorem Zsj{σ σ':Int→Tm}(hσ:∀i c,0≤c→Par (Ze3 σ i c) (Ze3 σ' i c)):∀{xs ys:List Tm},Pars xs ys→∀b:Int,0≤b→Pars (xs.map (Tm.re (Ze3 σ) b)) (ys.map (Tm.re (Ze3 σ') b))
 |_,_,.nil,_,_=> .nil
 |_,_,.cons h hs,b,hb=> .cons (ub hσ h b hb) (Zsj hσ hs b hb)
end
theorem Zu3{t u:Tm}(h:Par t u)(n:Int)(hn:0≤n):Par (t.re (zq 0 n) 0) (u.re (zq 0 n) 0):=by
 rw[Zrm n hn,Zrm n hn]
 refine ub (fun i c _=> ?_) h 0 (Int.le_refl _)
 exact Par.refl _
theorem Yae{b b' a a':Tm}(hb:Par b b')(ha:Par a a'):Par (b.re (y5 0 a) 0) (b'.re (y5 0 a') 0):=by
 rw[Zth,Zth]
 refine ub (fun i c hc=> ?_) hb 0 (Int.le_refl _)
 simp only[Ze3,Ye9]
 by_cases h:i<c
 ·rw [if_pos h,if_pos h];exact Par.refl _
 ·rw [if_neg h,if_neg h]
  by_cases h0:i-c=0
  ·rw [if_pos h0,if_pos h0];exact Zu3 ha c hc
  ·rw [if_neg h0,if_neg h0];exact Par.refl _
theorem Znl:∀(xs:List Tm),(∀x∈xs,∃w,∀u,Par x u→Par u w)→∃ws,∀ys,Pars xs ys→Pars ys ws
 |[],_=>⟨[],fun ys h=>by cases h;exact .nil⟩
 |x::l,h=>by
  obtain⟨w,hw⟩:=h x (by simp)
  obtain⟨ws,hws⟩:=Znl l fun y hy=>h y (by simp[hy])
  exact⟨w::ws,fun ys hy=>by cases hy with|cons h1 h2=>exact .cons (hw _ h1) (hws _ h2)⟩
theorem Zgx{f f' x x':Tm}(hf:Par f f')(hx:Par x x'):Par (apT f x) (apT f' x'):= .node (.cons hf (.cons hx .nil))
theorem tri:∀(n:Nat) (t:Tm),t.size≤n→∃w,∀u,Par t u→Par u w:=by
 intro n
 induction n with
 |zero=>intro t h;have:=t.size_pos;omega
 |succ n ih=>
 intro t ht
 by_cases hr:∃u,RV t u
 ·obtain ⟨x0,hr⟩:=hr
  cases hr with
  |beta i th j s b a=>
   simp only[Tm.size,Tm.sizes] at ht
   obtain⟨wb,hb⟩:=ih b (by omega)
   obtain⟨wa,ha⟩:=ih a (by omega)
   refine⟨wb.re (y5 0 wa) 0,fun u hu=> ?_⟩
   cases hu with
   |node hp=>
    cases hp with|cons h1 h2=>cases h2 with|cons h2 h3=>cases h3;cases h1 with|node h4=>cases h4 with|cons h4 h5=>cases h5;exact .beta (hb _ h4) (ha _ h2)
   |beta h1 h2=>exact Yae (hb _ h1) (ha _ h2)
  |rz i th _ f j s=>
   simp only[Tm.size,Tm.sizes] at ht
   obtain⟨wx,hx⟩:=ih x0 (by omega)
   refine⟨wx,fun u hu=> ?_⟩
   cases hu with
   |node hp=>
    cases hp with|cons h1 h2=>cases h2 with|cons h2 h3=>cases h3 with|cons h3 h4=>cases h4;cases h3 with|node h5=>cases h5;exact .rz (hx _ h1)
   |rz h1=>exact hx _ h1
  |rs i th x f j s n=>
   simp only[Tm.size,Tm.sizes] at ht
   obtain⟨wx,hx⟩:=ih x (by omega)
   obtain⟨wf,hf⟩:=ih f (by omega)
   obtain⟨wn,hn⟩:=ih n (by omega)
   refine⟨apT (apT wf wn) (.mk 6 0 th [wx,wf,wn]),fun u hu=> ?_⟩
   cases hu with
   |node hp=>
    cases hp with|cons h1 h2=>cases h2 with|cons h2 h3=>cases h3 with|cons h3 h4=>cases h4;cases h3 with|node h5=>cases h5 with|cons h5 h6=>cases h6;exact .rs (hx _ h1) (hf _ h2) (hn _ h5)
   |rs h1 h2 h3=>exact Zgx (Zgx (hf _ h2) (hn _ h3)) (.node (.cons (hx _ h1) (.cons (hf _ h2) (.cons (hn _ h3) .nil))))
  |fz i th _ f j s=>
   simp only[Tm.size,Tm.sizes] at ht
   obtain⟨wx,hx⟩:=ih x0 (by omega)
   refine⟨wx,fun u hu=> ?_⟩
   cases hu with
   |node hp=>
    cases hp with|cons h1 h2=>cases h2 with|cons h2 h3=>cases h3 with|cons h3 h4=>cases h4;cases h3 with|node h5=>cases h5;exact .fz (hx _ h1)
   |fz h1=>exact hx _ h1
  |fs i th x f j s n l=>
   simp only[Tm.size,Tm.sizes] at ht
   obtain⟨wx,hx⟩:=ih x (by omega)
   obtain⟨wf,hf⟩:=ih f (by omega)
   obtain⟨wn,hn⟩:=ih n (by omega)
   obtain⟨wl,hl⟩:=ih l (by omega)
   refine⟨apT (apT (apT wf wn) wl) (.mk 9 0 th [wx,wf,wl]),fun u hu=> ?_⟩
   cases hu with
   |node hp=>
    cases hp with|cons h1 h2=>cases h2 with|cons h2 h3=>cases h3 with|cons h3 h4=>cases h4;cases h3 with|node h5=>cases h5 with|cons h5 h6=>cases h6 with|cons h6 h7=>cases h7;exact .fs (hx _ h1) (hf _ h2) (hn _ h5) (hl _ h6)
   |fs h1 h2 h3 h4=>exact Zgx (Zgx (Zgx (hf _ h2) (hn _ h3)) (hl _ h4)) (.node (.cons (hx _ h1) (.cons (hf _ h2) (.cons (hl _ h4) .nil))))
  |p1 i th j s _ y=>
   simp only[Tm.size,Tm.sizes] at ht
   obtain⟨wx,hx⟩:=ih x0 (by omega)
   refine⟨wx,fun u hu=> ?_⟩
   cases hu with
   |node hp=>
    cases hp with|cons h1 h2=>cases h2;cases h1 with|node h5=>cases h5 with|cons h5 h6=>cases h6 with|cons h6 h7=>cases h7;exact .p1 (hx _ h5)
   |p1 h1=>exact hx _ h1
  |p2 i th j s x _=>
   simp only[Tm.size,Tm.sizes] at ht
   obtain⟨wx,hx⟩:=ih x0 (by omega)
   refine⟨wx,fun u hu=> ?_⟩
   cases hu with
   |node hp=>
    cases hp with|cons h1 h2=>cases h2;cases h1 with|node h5=>cases h5 with|cons h5 h6=>cases h6 with|cons h6 h7=>cases h7;exact .p2 (hx _ h6)
   |p2 h1=>exact hx _ h1
 ·obtain ⟨k,i,th,xs⟩:=t
  have hz:=Tm.size_eq (.mk k i th xs)
  simp only[Tm.args_mk] at hz
  obtain⟨ws,hws⟩:=Znl xs fun x hx=>ih x (by have:=zb Tm.size hx;omega)
  refine⟨.mk k i th ws,fun u hu=> ?_⟩
  cases hu with
  |node hp=>exact .node (hws _ hp)
  |beta=>exact absurd ⟨_,.beta ..⟩ hr
  |rz=>exact absurd ⟨_,.rz ..⟩ hr
  |rs=>exact absurd ⟨_,.rs ..⟩ hr
  |fz=>exact absurd ⟨_,.fz ..⟩ hr
  |fs=>exact absurd ⟨_,.fs ..⟩ hr
  |p1=>exact absurd ⟨_,.p1 ..⟩ hr
  |p2=>exact absurd ⟨_,.p2 ..⟩ hr
noncomputable def dev(t:Tm):Tm:=Classical.choose (tri _ t (Nat.le_refl _))
noncomputable def devN:Nat→Tm→Tm
 |0,t=>t
 |n+1,t=>devN n (dev t)
inductive Pst:Tm→Tm→Prop
 |refl (t:Tm):Pst t t
 |step {t s u:Tm} (h:Par t s) (hs:Pst s u):Pst t u
theorem Pst.trans{t s u:Tm}(h:Pst t s):Pst s u→Pst t u:=by
 induction h with
 |refl=>exact id
 |step h1 _ ih=>exact fun h=> .step h1 (ih h)
theorem Pst.one{t u:Tm}(h:Par t u):Pst t u:= .step h (.refl _)
def nf(t:Tm):Prop:=∀u,Par t u→u=t
mutual
theorem Zyu{room:Int}:∀{t u:Tm},Par t u→nxR room t=none→u=t
 |_,_,.node (k:=k) (i:=i) (h:=h) (xs:=xs) (ys:=ys) hp,hn=>by
  rw[Zbl] at hn
  by_cases hr:vd (.mk k i h xs)=true
  ·rw [if_pos hr] at hn;cases hn
  ·rw [if_neg hr] at hn
   simp only[Option.map_eq_none_iff,Tm.args_mk] at hn
   rw[Zxx hp hn]
 |_,_,.beta ..,hn=>by rw[Zbl] at hn;simp[vd,Tm.arg] at hn
 |_,_,.rz ..,hn=>by rw[Zbl] at hn;simp[vd,Tm.arg] at hn
 |_,_,.rs ..,hn=>by rw[Zbl] at hn;simp[vd,Tm.arg] at hn
 |_,_,.fz ..,hn=>by rw[Zbl] at hn;simp[vd,Tm.arg] at hn
 |_,_,.fs ..,hn=>by rw[Zbl] at hn;simp[vd,Tm.arg] at hn
 |_,_,.p1 ..,hn=>by rw[Zbl] at hn;simp[vd,Tm.arg] at hn
 |_,_,.p2 ..,hn=>by rw[Zbl] at hn;simp[vd,Tm.arg] at hn
theorem Zxx{room:Int}:∀{xs ys:List Tm},Pars xs ys→Zpk room xs=none→ys=xs
 |_,_,.nil,_=>rfl
 |_,_,.cons (x:=x) (xs:=xs) h hs,hn=>by
  simp only[Zpk] at hn
  cases hx:nxR room x with
  |some p=>rw[hx] at hn;cases hn
  |none=>
   rw[hx] at hn
   simp only[Option.map_eq_none_iff] at hn
   rw[Zyu h hx,Zxx hs hn]
end
def nrm:Nat→Tm→Nat→Tm×Int×Int
 |0,t,n=>match nxR (4096-t.size) t with
  |none=>(t,n,0)
  |some _=>(Zbo,0,5)
 |k+1,t,n=>match nxR (4096-t.size) t with
  |none=>(t,n,0)
  |some (x,true)=>nrm k x (n+1)
  |some (_,false)=>(Zbo,0,4)
def xm(t:Tm)(steps:Int):Tm×Int×Int:=
 if t.err≠0 then(Zbo,0,t.err) else if ¬(0≤steps∧steps≤65536)∨t.near=false then(Zbo,0,1) else nrm steps.toNat t 0
def Zhf(a b:Tm)(steps:Int):Int:=
 if a.err≠0 then a.err else if b.err≠0 then b.err else if a=b then 0
 else if(xm a steps).2.2≠0 then(xm a steps).2.2 else if(xm b steps).2.2≠0 then(xm b steps).2.2
 else if(xm a steps).1=(xm b steps).1 then 0 else 11
theorem Zt6{t u:Tm}(he:t.err=0)(h:nxR (4096-t.size) t=some (u,true)):u.err=0:=by
 obtain⟨h1,h2⟩:=w6 he
 obtain⟨h3,h4,_⟩:=Znw _ t u h1 h
 exact(Tm.err_iff _).2 ⟨h3,by omega⟩
theorem Zs9:∀(k:Nat) (t:Tm) (n:Nat),t.err=0→(nrm k t n).2.2=0→Pst t (nrm k t n).1∧nf (nrm k t n).1∧(nrm k t n).1.err=0
 |0,t,n,he,h=>by
  simp only[nrm] at h ⊢
  cases hx:nxR (4096-t.size) t with
  |none=>rw[hx] at h;exact⟨.refl _,fun u hu=>Zyu hu hx,he⟩
  |some p=>rw[hx] at h;cases h
 |k+1,t,n,he,h=>by
  simp only[nrm] at h ⊢
  cases hx:nxR (4096-t.size) t with
  |none=>rw[hx] at h;exact⟨.refl _,fun u hu=>Zyu hu hx,he⟩
  |some p=>
   obtain⟨x,f⟩:=p
   rw[hx] at h
   cases f with
   |false=>cases h
   |true=>
    obtain⟨i1,i2,i3⟩:=Zs9 k x (n+1) (Zt6 he hx) h
    exact⟨.step (Yc7 _ t x (w6 he).1 hx) i1,i2,i3⟩
theorem Zkh(t:Tm)(steps:Int)(h:(xm t steps).2.2=0):(xm t steps).1.full<274877906944:=by
 unfold xm at h ⊢
 by_cases he:t.err=0
 ·rw [if_neg (by simp[he])] at h ⊢
  by_cases hc:¬(0≤steps∧steps≤65536)∨t.near=false
  ·rw [if_pos hc] at h;cases h
  ·rw [if_neg hc] at h ⊢
   obtain⟨_,_,h3⟩:=Zs9 _ _ _ he h
   have:=z8 h3
   omega
 ·rw [if_pos he] at h;exact absurd h he
def Zqe:List Tm→List Tm→Int
 |x::l,y::m=>if Zhf x y 1000≠0 then Zhf x y 1000 else Zqe l m
 |_,_=>0
mutual
def mtF:Fm→Fm→Int
 | .mk k ty ts xs,.mk k' ty' ts' xs'=>if k=k'∧ty=ty' then(if Zqe ts ts'≠0 then Zqe ts ts' else Zup xs xs') else 11
def Zup:List Fm→List Fm→Int
 |x::l,y::m=>if mtF x y≠0 then mtF x y else Zup l m
 |_,_=>0
end
theorem Ycy(f g:Fm):mtF f g=if f.kind=g.kind∧f.ty=g.ty then(if Zqe f.terms g.terms≠0 then Zqe f.terms g.terms else Zup f.args g.args) else 11:=by
 cases f;cases g;simp only[mtF];rfl
theorem Zs6:∀(l m:List Tm) (i:Nat) (hi:i<l.length) (hj:i<m.length),(∀j (h1:j<l.length) (h2:j<m.length),j<i→Zhf l[j] m[j] 1000=0)→Zhf l[i] m[i] 1000≠0→Zqe l m=Zhf l[i] m[i] 1000
 |x::l,y::m,0,_,_,_,h=>by simp only[List.getElem_cons_zero] at h ⊢;simp only[Zqe];rw[if_pos h]
 |x::l,y::m,i+1,hi,hj,hn,h=>by
  have h0:=hn 0 (by simp) (by simp) (by omega)
  simp only[Zqe]
  rw[if_neg (by simpa using h0)]
  exact Zs6 l m i (by simpa using hi) (by simpa using hj) (fun j h1 h2 hji=>by have:=hn (j+1) (by simpa using h1) (by simpa using h2) (by omega);simpa using this) (by simpa using h)
theorem Zlt:∀(l m:List Tm),(∀j (h1:j<l.length) (h2:j<m.length),Zhf l[j] m[j] 1000=0)→Zqe l m=0
 |[],_,_=>by simp only[Zqe]
 |_::_,[],_=>by simp only[Zqe]
 |x::l,y::m,hn=>by
  have h0:=hn 0 (by simp) (by simp)
  simp only[Zqe]
  rw[if_neg (by simpa using h0)]
  exact Zlt l m fun j h1 h2=>by have:=hn (j+1) (by simpa using h1) (by simpa using h2);simpa using this
theorem Zqy:∀(l m:List Fm) (i:Nat) (hi:i<l.length) (hj:i<m.length),(∀j (h1:j<l.length) (h2:j<m.length),j<i→mtF l[j] m[j]=0)→mtF l[i] m[i]≠0→Zup l m=mtF l[i] m[i]
 |x::l,y::m,0,_,_,_,h=>by simp only[List.getElem_cons_zero] at h ⊢;simp only[Zup];rw[if_pos h]
 |x::l,y::m,i+1,hi,hj,hn,h=>by
  have h0:=hn 0 (by simp) (by simp) (by omega)
  simp only[Zup]
  rw[if_neg (by simpa using h0)]
  exact Zqy l m i (by simpa using hi) (by simpa using hj) (fun j h1 h2 hji=>by have:=hn (j+1) (by simpa using h1) (by simpa using h2) (by omega);simpa using this) (by simpa using h)
theorem Zj3:∀(l m:List Fm),(∀j (h1:j<l.length) (h2:j<m.length),mtF l[j] m[j]=0)→Zup l m=0
 |[],_,_=>by simp only[Zup]
 |_::_,[],_=>by simp only[Zup]
 |x::l,y::m,hn=>by
  have h0:=hn 0 (by simp) (by simp)
  simp only[Zup]
  rw[if_neg (by simpa using h0)]
  exact Zj3 l m fun j h1 h2=>by have:=hn (j+1) (by simpa using h1) (by simpa using h2);simpa using this
def Zqh(f g:Fm):Int:=if f.err≠0 then f.err else if g.err≠0 then g.err else mtF f g
@[simp] theorem Pf.kind_mk(k i:Int)(h:Ty)(ts:List Tm)(fs:List Fm)(as:List Pf):(Pf.mk k i h ts fs as).kind=k:=rfl
@[simp] theorem Pf.index_mk(k i:Int)(h:Ty)(ts:List Tm)(fs:List Fm)(as:List Pf):(Pf.mk k i h ts fs as).index=i:=rfl
@[simp] theorem Pf.ty_mk(k i:Int)(h:Ty)(ts:List Tm)(fs:List Fm)(as:List Pf):(Pf.mk k i h ts fs as).ty=h:=rfl
@[simp] theorem Pf.terms_mk(k i:Int)(h:Ty)(ts:List Tm)(fs:List Fm)(as:List Pf):(Pf.mk k i h ts fs as).terms=ts:=rfl
@[simp] theorem Pf.forms_mk(k i:Int)(h:Ty)(ts:List Tm)(fs:List Fm)(as:List Pf):(Pf.mk k i h ts fs as).forms=fs:=rfl
@[simp] theorem Pf.args_mk(k i:Int)(h:Ty)(ts:List Tm)(fs:List Fm)(as:List Pf):(Pf.mk k i h ts fs as).args=as:=rfl
structure Nd where
 terms:Nat
 forms:Nat
 args:Nat
 index:Bool
 typ:Bool
def noNd:Nd:=⟨0,0,0,false,false⟩
def ndP(k:Int):Option Nd:=
 if k=1∨k=2 then some ⟨0,0,0,true,false⟩
 else if k=3∨k=7 then some ⟨0,0,2,false,false⟩
 else if k=4∨k=5∨k=20 then some ⟨0,0,1,false,false⟩
 else if k=6 then some ⟨0,1,1,false,false⟩
 else if k=8∨k=12 then some ⟨0,0,1,false,true⟩
 else if k=9∨k=13 then some ⟨1,0,1,false,false⟩
 else if k=10∨k=14 then some ⟨1,1,1,false,false⟩
 else if k=11∨k=15 then some ⟨0,0,2,false,false⟩
 else if k=16∨k=17 then some ⟨1,1,2,false,false⟩
 else if k=18 then some ⟨1,0,0,false,false⟩
 else if k=19 then some ⟨0,1,2,false,false⟩ else none
def Nd.view(n:Nd):List V:=[.i n.terms,.i n.forms,.i n.args,.bool n.index,.bool n.typ]
def Pf.head(p:Pf):Bool:=match ndP p.kind with
 |none=>false
 |some n=>p.terms.length==n.terms&&p.forms.length==n.forms&&p.args.length==n.args&&decide (0≤p.index)&&(n.index||p.index==0)&&(if n.typ=true then p.ty.ok else p.ty.isNo)
mutual
def Pf.shape:Pf→Bool
 | .mk k i h ts fs as=>Pf.head (.mk k i h ts fs as)&&ts.all Tm.shape&&fs.all Fm.shape&&Pf.shapes as
def Pf.shapes:List Pf→Bool
 |[]=>true
 |f::l=>f.shape&&Pf.shapes l
end
mutual
def Pf.size:Pf→Nat
 | .mk _ _ _ ts fs as=>1+(ts.map Tm.size).sum+(fs.map Fm.size).sum+Pf.sizes as
def Pf.sizes:List Pf→Nat
 |[]=>0
 |f::l=>f.size+Pf.sizes l
end
mutual
def Pf.full:Pf→Nat
 | .mk _ _ h ts fs as=>1+h.size+(ts.map Tm.full).sum+(fs.map Fm.full).sum+Pf.fulls as
def Pf.fulls:List Pf→Nat
 |[]=>0
 |f::l=>f.full+Pf.fulls l
end
mutual
def Pf.small:Pf→Bool
 | .mk _ _ _ ts fs as=>ts.all (fun t=>decide (t.size≤4096))&&fs.all (fun f=>decide (f.size≤4096))&&Pf.smalls as
def Pf.smalls:List Pf→Bool
 |[]=>true
 |f::l=>f.small&&Pf.smalls l
end
theorem Pf.shapes_eq:∀l:List Pf,Pf.shapes l=l.all Pf.shape
 |[]=>rfl
 |f::l=>by rw[Pf.shapes,Pf.shapes_eq l];rfl
theorem Pf.sizes_eq:∀l:List Pf,Pf.sizes l=(l.map Pf.size).sum
 |[]=>rfl
 |f::l=>by rw[Pf.sizes,Pf.sizes_eq l];rfl
theorem Pf.fulls_eq:∀l:List Pf,Pf.fulls l=(l.map Pf.full).sum
 |[]=>rfl
 |f::l=>by rw[Pf.fulls,Pf.fulls_eq l];rfl
theorem Pf.smalls_eq:∀l:List Pf,Pf.smalls l=l.all Pf.small
 |[]=>rfl
 |f::l=>by rw[Pf.smalls,Pf.smalls_eq l];rfl
theorem Pf.shape_eq(p:Pf):p.shape=(p.head&&p.terms.all Tm.shape&&p.forms.all Fm.shape&&p.args.all Pf.shape):=by cases p;simp only[Pf.shape,Pf.shapes_eq];rfl
theorem Pf.size_eq(p:Pf):p.size=1+(p.terms.map Tm.size).sum+(p.forms.map Fm.size).sum+(p.args.map Pf.size).sum:=by cases p;simp only[Pf.size,Pf.sizes_eq];rfl
theorem Pf.full_eq(p:Pf):p.full=1+p.ty.size+(p.terms.map Tm.full).sum+(p.forms.map Fm.full).sum+(p.args.map Pf.full).sum:=by cases p;simp only[Pf.full,Pf.fulls_eq];rfl
theorem Pf.small_eq(p:Pf):p.small=(p.terms.all (fun t=>decide (t.size≤4096))&&p.forms.all (fun f=>decide (f.size≤4096))&&p.args.all Pf.small):=by cases p;simp only[Pf.small,Pf.smalls_eq];rfl
theorem Pf.full_pos(p:Pf):1≤p.full:=by rw[Pf.full_eq];omega
theorem Pf.size_pos(p:Pf):1≤p.size:=by rw[Pf.size_eq];omega
theorem Pf.ind{P:Pf→Prop}(h:∀f,(∀x∈f.args,P x)→P f)(f:Pf):P f:=by
 have:∀n,∀f:Pf,f.full≤n→P f:=by
  intro n
  induction n with
  |zero=>intro f h;have:=f.full_pos;omega
  |succ n ih=>
   intro f hf
   refine h f fun x hx=>ih x ?_
   have:=zb Pf.full hx
   have:=f.full_eq
   omega
 exact this _ f (Nat.le_refl _)
theorem Pf.size_le_full(p:Pf):p.size≤p.full:=by
 induction p using Pf.ind with
 |h p ih=>
  rw[p.size_eq,p.full_eq]
  have h1:=yx (f:=Pf.size) (g:=Pf.full) p.args ih
  have h2:=yx (f:=Tm.size) (g:=Tm.full) p.terms fun x _=>x.size_le_full
  have h3:=yx (f:=Fm.size) (g:=Fm.full) p.forms fun x _=>x.size_le_full
  omega
def Pf.err(p:Pf):Int:=if p.shape=false then 2 else if p.small=false∨p.size>16384 then 4 else 0
theorem Pf.err_iff(p:Pf):p.err=0↔p.shape=true∧p.small=true∧p.size≤16384:=by
 unfold Pf.err
 cases hs:p.shape with
 |false=>simp
 |true=>
  cases hm:p.small with
  |false=>simp
  |true=>
   by_cases h:p.size>16384
   ·rw [if_neg (by simp),if_pos (.inr h)];constructor
    ·intro h;cases h
    ·rintro ⟨_,_,h2⟩;omega
   ·rw [if_neg (by simp),if_neg (by simp;omega)];exact⟨fun _=>⟨rfl,rfl,by omega⟩,fun _=>rfl⟩
def Zuq:Pf:= .mk 0 0 (.mk 0 []) [] [] []
def y4(t:Tm):Pf:= .mk 18 0 (.mk 0 []) [t] [] []
theorem Zts{f g:Fm}(hf:f.shape=true)(hg:g.shape=true)(hk:f.kind=g.kind):f.terms.length=g.terms.length∧f.args.length=g.args.length:=by
 rw[Fm.shape_eq,Bool.and_eq_true,Bool.and_eq_true] at hf hg
 have h1:=hf.1.1
 have h2:=hg.1.1
 unfold Fm.head at h1 h2
 rw[←hk] at h2
 by_cases k1:f.kind=1
 ·rw [if_pos k1] at h1 h2
  simp only[Bool.and_eq_true,beq_iff_eq] at h1 h2
  omega
 rw[if_neg k1] at h1 h2
 by_cases k2:f.kind=2∨f.kind=3
 ·rw [if_pos k2] at h1 h2
  simp only[Bool.and_eq_true,beq_iff_eq] at h1 h2
  omega
 rw[if_neg k2] at h1 h2
 by_cases k4:f.kind=4∨f.kind=5∨f.kind=6∨f.kind=7
 ·rw [if_pos k4] at h1 h2
  simp only[Bool.and_eq_true,beq_iff_eq] at h1 h2
  omega
 rw[if_neg k4] at h1
 cases h1
end Go.Ab
