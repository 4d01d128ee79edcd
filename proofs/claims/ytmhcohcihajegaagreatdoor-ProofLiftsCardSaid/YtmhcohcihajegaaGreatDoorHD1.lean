/- A part of this seat's proofs. No conditions. -/
import Derived.Test.YtmhcohcihajegaaGreatDoorHA2
namespace Go.Ab
open Go
set_option linter.all false
@[simp] theorem Yiw(E:Env)(T:Nat)(k:IntKind)(n:Int):za E T (.int k n)= .int k n:=rfl
@[simp] theorem Yf7(E:Env)(T:Nat)(b:Bool):za E T (.bool b)= .bool b:=rfl
@[simp] theorem Yis(E:Env)(T:Nat)(s:ByteArray):za E T (.string s)= .str s:=rfl
theorem xd{α:Type}(f:α->Nat)(l:List α):∀m (h:m<l.length),((l.take (m+1)).map f).sum=((l.take m).map f).sum+f l[m]:=by
 induction l<;>grind
theorem zc{α:Type}(f:α->Nat){l:List α}{t:α}(h:t∈l):f t<=(l.map f).sum:=by
 induction l<;>grind
theorem ya{α:Type}(f:α->Nat)(l:List α)(m:Nat):((l.take m).map f).sum<=(l.map f).sum:=by
 induction l generalizing m with
 |nil=>simp
 |cons t l ih=>cases m<;>simp_all
theorem zg{α:Type}(f:α->Nat)(hf:∀x,1<=f x):∀l:List α,l.length<=(l.map f).sum
 |[]=>Nat.le_refl _
 |x::l=>by have:=zg f hf l;grind
theorem Zbu{α:Type}(p:α->Bool)(l:List α)(h:∀j (hj:j<l.length),p l[j]=true):l.all p=true:=by
 rw[List.all_eq_true];intro x hx;obtain⟨j,hj,rfl⟩:=List.mem_iff_getElem.1 hx
 grind
theorem ul{α:Type}(p:α->Bool){l:List α}{j:Nat}(hj:j<l.length)(h:p l[j]=false):l.all p=false:=by
 grind
theorem yj{α:Type}{p:α->Prop}{l:List α}{m:Nat}(hm:m<l.length)(h:∀j (hj:j<l.length),j<m->p l[j])(h1:p l[m]):∀j (hj:j<l.length),j<m+1->p l[j]:=by
 grind
def arT(k:Int):Option Nat:=if k=1\/k=2\/k=5 then some 0 else if k=3\/k=4 then some 2 else none
mutual
def Ty.shape:Ty->Bool
 | .mk k xs=>(match arT k with|some n=>xs.length==n|none=>false)&&Ty.shapes xs
def Ty.shapes:List Ty->Bool
 |[]=>true
 |t::l=>t.shape&&Ty.shapes l
end
mutual
def Ty.size:Ty->Nat
 | .mk _ xs=>1+Ty.sizes xs
def Ty.sizes:List Ty->Nat
 |[]=>0
 |t::l=>t.size+Ty.sizes l
end
theorem Ty.sizes_eq:∀l:List Ty,Ty.sizes l=(l.map Ty.size).sum
 |[]=>rfl
 |t::l=>by simp only[Ty.sizes,Ty.sizes_eq l,List.map_cons,List.sum_cons]
theorem Ty.shapes_eq:∀l:List Ty,Ty.shapes l=l.all Ty.shape
 |[]=>rfl
 |t::l=>by simp only[Ty.shapes,Ty.shapes_eq l,List.all_cons]
theorem Ty.size_eq(t:Ty):t.size=1+(t.args.map Ty.size).sum:=by cases t;simp only[Ty.size,Ty.sizes_eq,Ty.args_mk]
theorem Ty.shape_eq(t:Ty):t.shape=((match arT t.kind with|some n=>t.args.length==n|none=>false)&&t.args.all Ty.shape):=by cases t;simp only[Ty.shape,Ty.shapes_eq,Ty.args_mk,Ty.kind_mk]
theorem Ty.size_pos(t:Ty):1<=t.size:=by rw[Ty.size_eq];omega
def Ty.nodes(t:Ty):Nat:=if t.shape then t.size else 0
theorem Ty.nodes_le(t:Ty):t.nodes<=t.size:=by simp only[Ty.nodes];grind
theorem Ty.ind{P:Ty->Prop}(h:∀t,(∀x∈t.args,P x)->P t)(t:Ty):P t:=by
 have:∀b (t:Ty),t.size<=b->P t:=by
  intro b;induction b with
  |zero=>intro t ht;have:=t.size_pos;omega
  |succ b ih=>
   intro t ht;refine h t fun x hx=>ih x ?_;have:=zc Ty.size hx;have:=t.size_eq;omega
 exact this _ t (Nat.le_refl _)
def arK(k:Int):Option Nat:=
 if k=1\/k=4\/k=7\/k=13 then some 0 else if k=2\/k=5\/k=11\/k=12 then some 1 else if k=3\/k=8\/k=10 then some 2 else if k=6\/k=9 then some 3 else none
def we(k:Int):Bool:=k==2||k==6||k==9
def Ty.isNo(t:Ty):Bool:=t.kind==0&&t.args.length==0
def Ty.ok(t:Ty):Bool:=t.shape&&decide (t.size<=64)
def Tm.head(t:Tm):Bool:=(match arK t.kind with|some n=>t.args.length==n|none=>false)&&decide (0<=t.index)&&(t.index==0||t.kind==1)&&(bif we t.kind then t.ty.ok else t.ty.isNo)
mutual
def Tm.shape:Tm->Bool
 | .mk k i h xs=>(Tm.mk k i h xs).head&&Tm.shapes xs
def Tm.shapes:List Tm->Bool
 |[]=>true
 |t::l=>t.shape&&Tm.shapes l
end
mutual
def Tm.size:Tm->Nat
 | .mk _ _ _ xs=>1+Tm.sizes xs
def Tm.sizes:List Tm->Nat
 |[]=>0
 |t::l=>t.size+Tm.sizes l
end
mutual
def Tm.full:Tm->Nat
 | .mk _ _ h xs=>1+h.size+Tm.fulls xs
def Tm.fulls:List Tm->Nat
 |[]=>0
 |t::l=>t.full+Tm.fulls l
end
theorem Tm.sizes_eq:∀l:List Tm,Tm.sizes l=(l.map Tm.size).sum
 |[]=>rfl
 |t::l=>by simp only[Tm.sizes,Tm.sizes_eq l,List.map_cons,List.sum_cons]
theorem Tm.fulls_eq:∀l:List Tm,Tm.fulls l=(l.map Tm.full).sum
 |[]=>rfl
 |t::l=>by simp only[Tm.fulls,Tm.fulls_eq l,List.map_cons,List.sum_cons]
theorem Tm.shapes_eq:∀l:List Tm,Tm.shapes l=l.all Tm.shape
 |[]=>rfl
 |t::l=>by simp only[Tm.shapes,Tm.shapes_eq l,List.all_cons]
theorem Tm.size_eq(t:Tm):t.size=1+(t.args.map Tm.size).sum:=by cases t;simp only[Tm.size,Tm.sizes_eq,Tm.args_mk]
theorem Tm.full_eq(t:Tm):t.full=1+t.ty.size+(t.args.map Tm.full).sum:=by cases t;simp only[Tm.full,Tm.fulls_eq,Tm.args_mk,Tm.ty_mk]
theorem Tm.shape_eq(t:Tm):t.shape=(t.head&&t.args.all Tm.shape):=by cases t;simp only[Tm.shape,Tm.shapes_eq,Tm.args_mk]
theorem Tm.size_pos(t:Tm):1<=t.size:=by rw[Tm.size_eq];omega
theorem Tm.full_pos(t:Tm):1<=t.full:=by rw[Tm.full_eq];omega
theorem Tm.ind{P:Tm->Prop}(h:∀t,(∀x∈t.args,P x)->P t)(t:Tm):P t:=by
 have:∀b (t:Tm),t.size<=b->P t:=by
  intro b;induction b with
  |zero=>intro t ht;have:=t.size_pos;omega
  |succ b ih=>
   intro t ht;refine h t fun x hx=>ih x ?_;have:=zc Tm.size hx;have:=t.size_eq;omega
 exact this _ t (Nat.le_refl _)
theorem Tm.size_le_full(t:Tm):t.size<=t.full:=by
 induction t using Tm.ind with
 |h t ih=>
  have:∀l:List Tm,(∀x∈l,x.size<=x.full)->(l.map Tm.size).sum<=(l.map Tm.full).sum:=by
   intro l;induction l<;>grind
  have:=this t.args ih;rw[t.size_eq,t.full_eq];omega
def Tm.nodes(t:Tm):Nat:=if t.shape then t.size else 0
theorem Tm.nodes_le(t:Tm):t.nodes<=t.size:=by simp only[Tm.nodes];grind
def Ty.err(t:Ty):Int:=if t.shape=false then 2 else if t.size>64 then 4 else 0
def Ty.num(t:Ty):Int:=if t.err=0 then t.size else 0
def noTy:Ty:= .mk 0 []
def Tm.err(t:Tm):Int:=if t.shape=false then 2 else if t.size>4096 then 4 else 0
def Tm.num(t:Tm):Int:=if t.err=0 then t.size else 0
def noTm:Tm:= .mk 0 0 (.mk 0 []) []
def Zpq(t:Ty):V:= .tup [.i t.nodes,.bool t.shape]
def Ziw(t:Tm):V:= .tup [.i t.nodes,.bool t.shape]
end Go.Ab
namespace Go.Ab
set_option linter.all false
mutual
def Ty.same:Ty->Ty->Bool
 | .mk k xs,.mk k' ys=>k==k'&&Ty.sames xs ys
def Ty.sames:List Ty->List Ty->Bool
 |[],[]=>true
 |x::xs,y::ys=>x.same y&&Ty.sames xs ys
 |_,_=>false
end
mutual
theorem Ty.same_iff:∀a b:Ty,a.same b=true↔a=b
 | .mk k xs,.mk k' ys=>by simp only[Ty.same,Bool.and_eq_true,beq_iff_eq,Ty.mk.injEq,Ty.sames_iff xs ys]
theorem Ty.sames_iff:∀a b:List Ty,Ty.sames a b=true↔a=b
 |[],[]=>by simp[Ty.sames]
 |x::xs,y::ys=>by simp only[Ty.sames,Bool.and_eq_true,List.cons.injEq,Ty.same_iff x y,Ty.sames_iff xs ys]
 |[],_::_=>by simp[Ty.sames]
 |_::_,[]=>by simp[Ty.sames]
end
instance:DecidableEq Ty:=fun a b=>decidable_of_iff _ (Ty.same_iff a b)
mutual
def Tm.same:Tm->Tm->Bool
 | .mk k i h xs,.mk k' i' h' ys=>k==k'&&i==i'&&decide (h=h')&&Tm.sames xs ys
def Tm.sames:List Tm->List Tm->Bool
 |[],[]=>true
 |x::xs,y::ys=>x.same y&&Tm.sames xs ys
 |_,_=>false
end
mutual
theorem Tm.same_iff:∀a b:Tm,a.same b=true↔a=b
 | .mk k i h xs,.mk k' i' h' ys=>by simp only[Tm.same,Bool.and_eq_true,beq_iff_eq,Tm.mk.injEq,Tm.sames_iff xs ys,decide_eq_true_eq,and_assoc]
theorem Tm.sames_iff:∀a b:List Tm,Tm.sames a b=true↔a=b
 |[],[]=>by simp[Tm.sames]
 |x::xs,y::ys=>by simp only[Tm.sames,Bool.and_eq_true,List.cons.injEq,Tm.same_iff x y,Tm.sames_iff xs ys]
 |[],_::_=>by simp[Tm.sames]
 |_::_,[]=>by simp[Tm.sames]
end
instance:DecidableEq Tm:=fun a b=>decidable_of_iff _ (Tm.same_iff a b)
theorem Ty.eq_iff(a b:Ty):a=b↔a.kind=b.kind/\a.args=b.args:=by cases a;cases b;simp
theorem Tm.eq_iff(a b:Tm):a=b↔a.kind=b.kind/\a.index=b.index/\a.ty=b.ty/\a.args=b.args:=by cases a;cases b;simp
theorem Zwj{α:Type}{xs ys:List α}(hl:xs.length=ys.length)(h:∀j (hj:j<xs.length),j<xs.length->xs[j]=ys[j]'(by omega)):xs=ys:=
 List.ext_getElem hl fun i h1 h2=>h i h1 h1
theorem Yae{α:Type}{xs ys:List α}{m:Nat}(h1:m<xs.length)(h2:m<ys.length)(h:¬xs[m]=ys[m]):¬xs=ys:=fun he=>by grind
theorem Yj4{α:Type}{xs ys:List α}(hl:xs.length=ys.length){m:Nat}(hm:m<xs.length)(h:∀j (hj:j<xs.length),j<m->xs[j]=ys[j]'(by omega))(h1:xs[m]=ys[m]'(by omega)):∀j (hj:j<xs.length),j<m+1->xs[j]=ys[j]'(by omega):=by
 grind
def up(k b:Int):Int:=if k=2 then b+1 else b
mutual
def Tm.vars(b:Int):Tm->List (Int×Int)
 | .mk k i _ xs=>(if k=1 then [(i,b)] else [])++Tm.varss (up k b) xs
def Tm.varss(b:Int):List Tm->List (Int×Int)
 |[]=>[]
 |t::l=>t.vars b++Tm.varss b l
end
theorem Tm.varss_eq(b:Int):∀l:List Tm,Tm.varss b l=l.flatMap (Tm.vars b)
 |[]=>rfl
 |t::l=>by simp only[Tm.varss,Tm.varss_eq b l,List.flatMap_cons]
theorem Tm.vars_eq(b:Int)(t:Tm):t.vars b=(if t.kind=1 then [(t.index,b)] else [])++t.args.flatMap (Tm.vars (up t.kind b)):=by cases t;simp only[Tm.vars,Tm.varss_eq,Tm.kind_mk,Tm.index_mk,Tm.args_mk];rfl
mutual
def Tm.re(g:Int->Int->Tm)(b:Int):Tm->Tm
 | .mk k i h xs=>if k=1 then g i b else .mk k i h (Tm.res g (up k b) xs)
def Tm.res(g:Int->Int->Tm)(b:Int):List Tm->List Tm
 |[]=>[]
 |t::l=>t.re g b::Tm.res g b l
end
theorem Tm.res_eq(g:Int->Int->Tm)(b:Int):∀l:List Tm,Tm.res g b l=l.map (Tm.re g b)
 |[]=>rfl
 |t::l=>by simp only[Tm.res,Tm.res_eq g b l,List.map_cons]
theorem Tm.re_eq(g:Int->Int->Tm)(b:Int)(t:Tm):t.re g b=if t.kind=1 then g t.index b else .mk t.kind t.index t.ty (t.args.map (Tm.re g (up t.kind b))):=by cases t;simp only[Tm.re,Tm.res_eq,Tm.kind_mk,Tm.index_mk,Tm.args_mk,Tm.ty_mk];rfl
theorem Zcx{α β:Type}(f:α->List β)(l:List α)(m:Nat)(h:m<l.length):(l.take (m+1)).flatMap f=(l.take m).flatMap f++f l[m]:=by
 rw[<-List.take_append_getElem h,List.flatMap_append];simp
theorem ym{α β:Type}(f:α->β)(l:List α)(m:Nat)(h:m<l.length):(l.take (m+1)).map f=(l.take m).map f++[f l[m]]:=by
 rw[<-List.take_append_getElem h,List.map_append];simp
theorem xv{α:Type}{f g:α->Nat}:∀(l:List α),(∀x∈l,f x<=g x)->(l.map f).sum<=(l.map g).sum
 |[],_=>Nat.le_refl _
 |x::l,h=>by have:=xv l fun y hy=>h y (by grind);grind
theorem Ygt(l:List Tm)(f:Tm->List (Int×Int))(h:∀x∈l,(f x).length<=x.size):(l.flatMap f).length<=(l.map Tm.size).sum:=by
 induction l<;>grind
theorem Tm.vars_len(t:Tm):∀b,(t.vars b).length<=t.size:=by
 induction t using Tm.ind with
 |h t ih=>
  intro b;rw[t.vars_eq,t.size_eq];have:=Ygt t.args (Tm.vars (up t.kind b)) fun x hx=>ih x hx _
  grind
def Tm.near(t:Tm):Bool:=(t.vars 0).all fun p=>decide (p.1<=536870912)
def cnt(at_:Int)(l:List (Int×Int)):Nat:=(l.filter fun p=>p.1-p.2==at_).length
theorem w8(at_:Int)(l l':List (Int×Int)):cnt at_ (l++l')=cnt at_ l+cnt at_ l':=by simp[cnt]
theorem Ykk(at_:Int)(l:List (Int×Int)):cnt at_ l<=l.length:=List.length_filter_le _ _
theorem Tm.vars_nonneg(t:Tm)(h:t.shape=true):∀b,∀p∈t.vars b,0<=p.1:=by
 induction t using Tm.ind with
 |h t ih=>
  intro b p hp;rw[t.shape_eq,Bool.and_eq_true] at h;rw[t.vars_eq,List.mem_append] at hp;rcases hp with hp|hp
  ·split at hp
   ·simp at hp;subst hp;have:=h.1;simp only[Tm.head,Bool.and_eq_true,decide_eq_true_eq] at this;omega
   grind
  grind
theorem Zxh(n k:Int)(hk:0<k): -k<n.tmod k:=by
 have h:=Int.natAbs_tmod n k;have h2:=Nat.mod_lt n.natAbs (show 0<k.natAbs by omega);omega
def natT:Ty:= .mk 1 []
def listT:Ty:= .mk 2 []
def Zml:Ty:= .mk 5 []
def Zdm(a b:Ty):Ty:= .mk 3 [a,b]
def xj(a b:Ty):Ty:= .mk 4 [a,b]
def okT(t:Ty):Ty×Int:=if t.err=0 then(t,0) else(noTy,4)
def at0(l:List Ty)(i:Nat):Ty:=l.getD i noTy
def Zaf(k:Int)(h:Ty)(l:List Ty):Ty×Int:=
 let a:=at0 l 0
 let b:=at0 l 1
 let c:=at0 l 2
 if k=3 then(if ¬a.kind=4\/¬at0 a.args 0=b then(noTy,7) else(at0 a.args 1,0))
 else if k=4 then(natT,0)
 else if k=5 then(if ¬a=natT then(noTy,7) else(natT,0))
 else if k=6 then(if ¬a=h\/¬b=xj natT (xj h h)\/¬c=natT then(noTy,7) else(h,0))
 else if k=7 then(listT,0)
 else if k=8 then(if ¬a=natT\/¬b=listT then(noTy,7) else(listT,0))
 else if k=9 then(if ¬a=h\/¬b=xj natT (xj listT (xj h h))\/¬c=listT then(noTy,7) else(h,0))
 else if k=10 then okT (Zdm a b)
 else if k=11\/k=12 then(if ¬a.kind=3 then(noTy,7) else if k=11 then(at0 a.args 0,0) else(at0 a.args 1,0))
 else(Zml,0)
mutual
def Tm.inf:List Ty->Tm->Ty×Int
 |g,.mk k i h xs=>
  if k=1 then(if i>=g.length then(noTy,6) else(at0 g (g.length-1-i.toNat),0))
  else if k=2 then(if(Tm.infs (g++[h]) xs).2≠0 then(noTy,(Tm.infs (g++[h]) xs).2) else okT (xj h (at0 (Tm.infs (g++[h]) xs).1 0)))
  else if(Tm.infs g xs).2≠0 then(noTy,(Tm.infs g xs).2) else Zaf k h (Tm.infs g xs).1
def Tm.infs:List Ty->List Tm->List Ty×Int
 |_,[]=>([],0)
 |g,t::l=>if(t.inf g).2≠0 then([],(t.inf g).2) else if(Tm.infs g l).2≠0 then([],(Tm.infs g l).2) else((t.inf g).1::(Tm.infs g l).1,0)
end
theorem Zax(at_:Int)(p:Int×Int):cnt at_ [p]=if p.1-p.2=at_ then 1 else 0:=by simp only[cnt,List.filter_cons,List.filter_nil];grind
def zk(fr by_:Int)(i b:Int):Tm:= .mk 1 (if i-b>=fr then i+by_ else i) (.mk 0 []) []
def xy(at_:Int)(s:Tm)(i b:Int):Tm:=if i-b=at_ then s.re (zk 0 (at_+b)) 0 else .mk 1 (if i-b>at_ then i-1 else i) (.mk 0 []) []
def Yir(n k:Int):Int:=((n.tmod k)+k).tmod k
structure Dk where
 l:List Int
 at_:Nat
def Dk.ok(d:Dk):Prop:=d.at_<=d.l.length/\d.l.length<1099511627776
def Dk.next(d:Dk)(n:Int):Int×Dk:=if h:n<1\/d.l.length<=d.at_ then(0,d) else(Yir (d.l[d.at_]'(by omega)) n,⟨d.l,d.at_+1⟩)
def Dk.cells(d:Dk):List V:=[.s .int d.l,.i d.at_]
theorem ut{t:Tm}(h:t.err=0):t.shape=true/\t.size<=4096:=by
 simp only[Tm.err] at h
 grind
theorem Ye1(c d:Int)(hc:0<=c/\c<=274877906944)(hd: -1<=d/\d<=4096): -274877906944<=c*d/\c*d<=1125899906842624:=by
 constructor
 ·have:=Int.mul_le_mul_of_nonneg_left hd.1 hc.1;omega
 ·have:=Int.mul_le_mul_of_nonneg_left hd.2 hc.1;omega
theorem Dk.next_ok{d:Dk}(h:d.ok)(n:Int):(d.next n).2.ok:=by
 simp only[Dk.next];split
 ·exact h
 ·rename_i hc;obtain⟨h1,h2⟩:=h;exact⟨by grind,h2⟩
def Dk.type:Nat->Dk->Ty×Dk
 |0,d=>let r:=d.next 7;(if r.1=3 then .mk 2 [] else if r.1=4 then .mk 5 [] else .mk 1 [],r.2)
 |n+1,d=>
  let r:=d.next 7
  if r.1=5\/r.1=6 then
   let a:=r.2.type n
   let b:=a.2.type n
   (.mk (if r.1=5 then 3 else 4) [a.1,b.1],b.2)
  else(if r.1=3 then .mk 2 [] else if r.1=4 then .mk 5 [] else .mk 1 [],r.2)
theorem Dk.type_ok:∀(n:Nat) (d:Dk),d.ok->(d.type n).2.ok
 |0,d,h=>Dk.next_ok h 7
 |n+1,d,h=>by
  simp only[Dk.type];split
  ·exact Dk.type_ok n _ (Dk.type_ok n _ (Dk.next_ok h 7))
  ·exact Dk.next_ok h 7
theorem Dk.type_eq(k:Int)(d:Dk):d.type k.toNat=(if 0<k/\((d.next 7).1=5\/(d.next 7).1=6) then
 (.mk (if(d.next 7).1=5 then 3 else 4) [((d.next 7).2.type (k-1).toNat).1,((((d.next 7).2.type (k-1).toNat).2).type (k-1).toNat).1],((((d.next 7).2.type (k-1).toNat).2).type (k-1).toNat).2)
 else(if(d.next 7).1=3 then .mk 2 [] else if(d.next 7).1=4 then .mk 5 [] else .mk 1 [],(d.next 7).2)):=by
 by_cases hk:0<k
 ·have e:k.toNat=(k-1).toNat+1:=by omega
  rw[e];simp only[Dk.type,hk,true_and]
 ·have e:k.toNat=0:=by omega
  rw[e];simp only[Dk.type,hk,false_and,if_false]
theorem Dk.type_size:∀(n:Nat) (d:Dk),(d.type n).1.size<=2^(n+1)-1
 |0,d=>by simp only[Dk.type];(repeat' split)<;>simp[Ty.size_eq]
 |n+1,d=>by
  have h1:=Dk.type_size n (d.next 7).2;have h2:=Dk.type_size n ((d.next 7).2.type n).2;have h3:2^(n+1+1)=2^(n+1)+2^(n+1):=by omega
  have h4:2<=2^(n+1):=by grind
  simp only[Dk.type];split
  ·rw[Ty.size_eq];simp only[Ty.args_mk,List.map_cons,List.map_nil,List.sum_cons,List.sum_nil];omega
  ·have:∀x:Int,(Ty.mk x []).size=1:=fun x=>by rfl
   grind
theorem Dk.type_small(d:Dk)(k:Int)(h:k<=20):(d.type k.toNat).1.size<1099511627776:=by
 have h1:=Dk.type_size k.toNat d;have h2:2^(k.toNat+1)<=2^21:=Nat.pow_le_pow_right (by omega) (by omega);omega
def Zb1:Nat->Tm
 |0=> .mk 4 0 (.mk 0 []) []
 |n+1=> .mk 5 0 (.mk 0 []) [Zb1 n]
def Zhy(n:Int):Tm:=if 0<=n/\n<4096 then Zb1 n.toNat else noTm
def Dk.types:Nat->Dk->List Ty×Dk
 |0,d=>([],d)
 |n+1,d=>let a:=d.type 1;let b:=a.2.types n;(a.1::b.1,b.2)
theorem Dk.types_snoc:∀(n:Nat) (d:Dk),d.types (n+1)=((d.types n).1++[((d.types n).2.type 1).1],((d.types n).2.type 1).2)
 |0,d=>rfl
 |n+1,d=>by
  have:=Dk.types_snoc n (d.type 1).2;show((d.type 1).1::((d.type 1).2.types (n+1)).1,((d.type 1).2.types (n+1)).2)=_;rw[this];rfl
theorem Dk.types_ok:∀(n:Nat) (d:Dk),d.ok->(d.types n).2.ok
 |0,d,h=>h
 |n+1,d,h=>Dk.types_ok n _ (Dk.type_ok 1 d h)
theorem Dk.types_len:∀(n:Nat) (d:Dk),(d.types n).1.length=n
 |0,d=>rfl
 |n+1,d=>by simp[Dk.types,Dk.types_len n]
theorem Zqc(n k:Int)(hk:0<k):0<=Yir n k/\Yir n k<k:=by
 have h1:=Zxh n k hk;constructor
 ·exact Int.tmod_nonneg _ (by omega)
 ·exact Int.tmod_lt_of_pos _ hk
theorem Dk.next_bd(d:Dk)(n:Int)(hn:0<n):0<=(d.next n).1/\(d.next n).1<n:=by
 simp only[Dk.next];split
 ·omega
 ·exact Zqc _ _ hn
def Dk.ctx(d:Dk):List Ty×Dk:=(d.next 4).2.types (d.next 4).1.toNat
def vT(i:Int):Tm:= .mk 1 i (.mk 0 []) []
def ve(t:Tm):Tm:= .mk 2 0 (.mk 1 []) [t]
def Zer(b f n:Tm):Tm:= .mk 6 0 (.mk 1 []) [b,f,n]
def sT(t:Tm):Tm:= .mk 5 0 (.mk 0 []) [t]
def zT:Tm:= .mk 4 0 (.mk 0 []) []
def apT(f x:Tm):Tm:= .mk 3 0 (.mk 0 []) [f,x]
def addF:Tm:=ve (ve (sT (vT 0)))
def plusT:Tm:=ve (ve (Zer (vT 1) addF (vT 0)))
def predT:Tm:=ve (Zer zT (ve (ve (vT 1))) (vT 0))
def subF:Tm:=ve (ve (apT predT (vT 0)))
def subT:Tm:=ve (ve (Zer (vT 1) subF (vT 0)))
def Zj1(t:Tm)(fr by_:Int):Int:=if t.err≠0 then t.err else if ¬(0<=fr/\fr<=4096)\/¬(0<=by_/\by_<=4096)\/t.near=false then 1 else 0
def vj(g:List Ty)(t:Ty):List Int:=((List.range g.length).filter fun i=>decide (g[g.length-1-i]? =some t)).map Int.ofNat
def u4:List Ty->Int
 |[]=>0
 |t::l=>if t.err≠0 then t.err else u4 l
theorem Zqg:∀(l:List Ty) (m:Nat) (hm:m<l.length),(∀j (hj:j<l.length),j<m->l[j].err=0)->l[m].err≠0->u4 l=l[m].err:=by
 intro l;induction l with
 |nil=>simp
 |cons t l ih=>
  intro m hm h h1;cases m with
  |zero=>simp only[List.getElem_cons_zero] at h1;simp only[u4];grind
  |succ m=>
   have h0:=h 0 (by simp) (by omega);simp only[List.getElem_cons_zero] at h0;simp only[u4,h0,ne_eq,not_true_eq_false,if_false,List.getElem_cons_succ]
   grind
theorem Zgg:∀(l:List Ty),(∀j (hj:j<l.length),j<l.length->l[j].err=0)->u4 l=0:=by
 intro l;induction l with
 |nil=>intro _;rfl
 |cons t l ih=>
  intro h;have h0:=h 0 (by simp) (by simp);simp only[List.getElem_cons_zero] at h0;simp only[u4,h0,ne_eq,not_true_eq_false,if_false];exact ih fun j hj _=>by have:=h (j+1) (by grind) (by grind);grind
def wd(l:List Ty):Int:=if l.length>16 then 3 else u4 l
def Zzl(k:Int):Int:=if k=1\/k=4\/k=7\/k=13 then 0 else if k=2\/k=5\/k=11\/k=12 then 1 else if k=3\/k=8\/k=10 then 2 else if k=6\/k=9 then 3 else -1
def nT(k:Int)(l:List Tm):Tm:= .mk k 0 (.mk 0 []) l
def hT(k:Int)(s:Ty)(l:List Tm):Tm:= .mk k 0 s l
def lmT(s:Ty)(x:Tm):Tm:= .mk 2 0 s [x]
def Zu6(g:List Ty)(t:Ty)(i:Nat):Bool:=(at0 g (g.length-1-i)).kind==4&&decide (at0 (at0 g (g.length-1-i)).args 1=t)
def Zvh(g:List Ty)(t:Ty):Option Nat:=(List.range g.length).find? (Zu6 g t)
abbrev MkF:=Dk->List Ty->Ty->Tm×Dk
def Dk.fin(rec:MkF)(pos:Bool)(d:Dk)(g:List Ty)(t:Ty):Tm×Dk:=
 if t.kind=1 then
  if pos=true then
   if(d.next 5).1=0 then(sT (rec (d.next 5).2 g t).1,(rec (d.next 5).2 g t).2)
   else if(d.next 5).1=1 then
    (apT (apT plusT (rec (d.next 5).2 g t).1) (rec (rec (d.next 5).2 g t).2 g t).1,(rec (rec (d.next 5).2 g t).2 g t).2)
   else if(d.next 5).1=2 then
    (apT (apT subT (rec (d.next 5).2 g t).1) (rec (rec (d.next 5).2 g t).2 g t).1,(rec (rec (d.next 5).2 g t).2 g t).2)
   else(Zhy ((d.next 5).2.next 3).1,((d.next 5).2.next 3).2)
  else(Zhy (d.next 3).1,(d.next 3).2)
 else if t.kind=2 then
  if pos=true then
   if(d.next 2).1=0 then(nT 8 [(rec (d.next 2).2 g natT).1,(rec (rec (d.next 2).2 g natT).2 g t).1],(rec (rec (d.next 2).2 g natT).2 g t).2)
   else(nT 7 [],(d.next 2).2)
  else(nT 7 [],d)
 else if t.kind=3 then(nT 10 [(rec d g (at0 t.args 0)).1,(rec (rec d g (at0 t.args 0)).2 g (at0 t.args 1)).1],(rec (rec d g (at0 t.args 0)).2 g (at0 t.args 1)).2)
 else if t.kind=4 then(lmT (at0 t.args 0) (rec d (g++[at0 t.args 0]) (at0 t.args 1)).1,(rec d (g++[at0 t.args 0]) (at0 t.args 1)).2)
 else(nT 13 [],d)
def Dk.m0(rec:MkF)(d:Dk)(g:List Ty)(t s:Ty):Tm×Dk:=(apT (lmT s (rec d (g++[s]) t).1) (rec (rec d (g++[s]) t).2 g s).1,(rec (rec d (g++[s]) t).2 g s).2)
def Dk.m1(rec:MkF)(d:Dk)(g:List Ty)(t s:Ty):Tm×Dk:=(nT 11 [nT 10 [(rec d g t).1,(rec (rec d g t).2 g s).1]],(rec (rec d g t).2 g s).2)
def Dk.m2(rec:MkF)(d:Dk)(g:List Ty)(t:Ty):Tm×Dk:=
 (hT 6 t [(rec (rec d (g++[natT,t]) t).2 g t).1,lmT natT (lmT t (rec d (g++[natT,t]) t).1),Zhy ((rec (rec d (g++[natT,t]) t).2 g t).2.next 3).1],((rec (rec d (g++[natT,t]) t).2 g t).2.next 3).2)
def Dk.m3(rec:MkF)(d:Dk)(g:List Ty)(t:Ty):Tm×Dk:=
 (hT 9 t [(rec (rec d (g++[natT,listT,t]) t).2 g t).1,lmT natT (lmT listT (lmT t (rec d (g++[natT,listT,t]) t).1)),(rec (rec (rec d (g++[natT,listT,t]) t).2 g t).2 g listT).1],(rec (rec (rec d (g++[natT,listT,t]) t).2 g t).2 g listT).2)
def Dk.m4(rec:MkF)(d:Dk)(g:List Ty)(t s:Ty):Tm×Dk:=(nT 12 [nT 10 [(rec d g s).1,(rec (rec d g s).2 g t).1]],(rec (rec d g s).2 g t).2)
def Dk.m5(rec:MkF)(pos:Bool)(d:Dk)(g:List Ty)(t:Ty):Tm×Dk:=
 match Zvh g t with
 |some i=>(apT (vT i) (rec d g (at0 (at0 g (g.length-1-i)).args 0)).1,(rec d g (at0 (at0 g (g.length-1-i)).args 0)).2)
 |none=>d.fin rec pos g t
def Dk.mid(rec:MkF)(pos:Bool)(d:Dk)(g:List Ty)(t:Ty):Tm×Dk:=
 if pos=true then
  if(d.next 8).1=0 then((d.next 8).2.type 0).2.m0 rec g t ((d.next 8).2.type 0).1
  else if(d.next 8).1=1 then((d.next 8).2.type 0).2.m1 rec g t ((d.next 8).2.type 0).1
  else if(d.next 8).1=2 then(d.next 8).2.m2 rec g t
  else if(d.next 8).1=3 then(d.next 8).2.m3 rec g t
  else if(d.next 8).1=4 then((d.next 8).2.type 0).2.m4 rec g t ((d.next 8).2.type 0).1
  else if(d.next 8).1=5 then(d.next 8).2.m5 rec pos g t
  else(d.next 8).2.fin rec pos g t
 else d.fin rec pos g t
theorem Dk.mid_pos{rec:MkF}{pos:Bool}{d:Dk}{g:List Ty}{t:Ty}(h:pos=true):d.mid rec pos g t=
 if(d.next 8).1=0 then((d.next 8).2.type 0).2.m0 rec g t ((d.next 8).2.type 0).1
 else if(d.next 8).1=1 then((d.next 8).2.type 0).2.m1 rec g t ((d.next 8).2.type 0).1
 else if(d.next 8).1=2 then(d.next 8).2.m2 rec g t
 else if(d.next 8).1=3 then(d.next 8).2.m3 rec g t
 else if(d.next 8).1=4 then((d.next 8).2.type 0).2.m4 rec g t ((d.next 8).2.type 0).1
 else if(d.next 8).1=5 then(d.next 8).2.m5 rec pos g t
 else(d.next 8).2.fin rec pos g t:=if_pos h
def Dk.gen(rec:MkF)(pos:Bool)(d:Dk)(g:List Ty)(t:Ty):Tm×Dk:=
 if vj g t=[] then d.mid rec pos g t
 else if 0<(d.next 3).1 then(vT ((vj g t).getD ((d.next 3).2.next (vj g t).length).1.toNat 0),((d.next 3).2.next (vj g t).length).2)
 else(d.next 3).2.mid rec pos g t
def Dk.tm:Nat->MkF
 |0,d,_,_=>(noTm,d)
 |n+1,d,g,t=>d.gen (Dk.tm n) (decide (2<=n)) g t
def Ty.small(t:Ty):Prop:=t.shape=true/\t.size<=3
def smalls(g:List Ty):Prop:=∀t∈g,t.small
inductive Mk:Nat->List Ty->Ty->Tm->Prop
 |var (n g t) (i:Nat) (hi:i<g.length) (h:at0 g (g.length-1-i)=t):Mk (n+1) g t (vT i)
 |app (n g t s a b) (hn:2<=n) (hs:s.shape=true) (h1:s.size=1) (ha:Mk n (g++[s]) t a) (hb:Mk n g s b):Mk (n+1) g t (apT (lmT s a) b)
 |fst (n g t s a b) (hn:2<=n) (hs:s.shape=true) (h1:s.size=1) (ha:Mk n g t a) (hb:Mk n g s b):Mk (n+1) g t (nT 11 [nT 10 [a,b]])
 |snd (n g t s a b) (hn:2<=n) (hs:s.shape=true) (h1:s.size=1) (ha:Mk n g s a) (hb:Mk n g t b):Mk (n+1) g t (nT 12 [nT 10 [a,b]])
 |recu (n g t a b m) (hn:2<=n) (hm:m<3) (ha:Mk n (g++[natT,t]) t a) (hb:Mk n g t b):Mk (n+1) g t (hT 6 t [b,lmT natT (lmT t a),Zb1 m])
 |fold (n g t a b c) (hn:2<=n) (ha:Mk n (g++[natT,listT,t]) t a) (hb:Mk n g t b) (hc:Mk n g listT c):Mk (n+1) g t (hT 9 t [b,lmT natT (lmT listT (lmT t a)),c])
 |ctx (n g t s a) (hn:2<=n) (i:Nat) (hi:i<g.length) (h:at0 g (g.length-1-i)=xj s t) (h1:s.size=1) (ha:Mk n g s a):Mk (n+1) g t (apT (vT i) a)
 |succ (n g a) (hn:2<=n) (ha:Mk n g natT a):Mk (n+1) g natT (sT a)
 |plus (n g a b) (hn:2<=n) (ha:Mk n g natT a) (hb:Mk n g natT b):Mk (n+1) g natT (apT (apT plusT a) b)
 |sub (n g a b) (hn:2<=n) (ha:Mk n g natT a) (hb:Mk n g natT b):Mk (n+1) g natT (apT (apT subT a) b)
 |num (n g m) (hm:m<3):Mk (n+1) g natT (Zb1 m)
 |cons (n g a b) (hn:2<=n) (ha:Mk n g natT a) (hb:Mk n g listT b):Mk (n+1) g listT (nT 8 [a,b])
 |nil (n g):Mk (n+1) g listT (nT 7 [])
 |pair (n g s t a b) (h1:s.size=1) (h2:t.size=1) (ha:Mk n g s a) (hb:Mk n g t b):Mk (n+1) g (Zdm s t) (nT 10 [a,b])
 |lam (n g s t a) (h1:s.size=1) (h2:t.size=1) (ha:Mk n (g++[s]) t a):Mk (n+1) g (xj s t) (lmT s a)
 |unit (n g):Mk (n+1) g Zml (nT 13 [])
theorem Dk.fin_ok{rec:MkF}{pos:Bool}{d:Dk}{g:List Ty}{t:Ty}(h:∀d g t,d.ok->(rec d g t).2.ok)(hd:d.ok):(d.fin rec pos g t).2.ok:=by
 have h5:=Dk.next_ok hd 5;have h3:=Dk.next_ok hd 3;have h2:=Dk.next_ok hd 2;unfold Dk.fin;repeat' split
 all_goals first
  |exact hd|exact h3|exact h2|exact Dk.next_ok h5 3|exact h _ _ _ h5|exact h _ _ _ (h _ _ _ h5)|exact h _ _ _ (h _ _ _ h2)|exact h _ _ _ (h _ _ _ hd)|grind
theorem Dk.mid_ok{rec:MkF}{pos:Bool}{d:Dk}{g:List Ty}{t:Ty}(h:∀d g t,d.ok->(rec d g t).2.ok)(hd:d.ok):(d.mid rec pos g t).2.ok:=by
 have h8:=Dk.next_ok hd 8;have hs:=Dk.type_ok 0 _ h8;have hf:=Dk.fin_ok (pos:=pos) (g:=g) (t:=t) h h8;unfold Dk.mid Dk.m0 Dk.m1 Dk.m2 Dk.m3 Dk.m4 Dk.m5;repeat' split
 all_goals first
  |exact hf|exact Dk.fin_ok h hd|exact h _ _ _ (h _ _ _ hs)|exact Dk.next_ok (h _ _ _ (h _ _ _ h8)) 3|exact h _ _ _ (h _ _ _ (h _ _ _ h8))|grind
theorem Dk.gen_ok{rec:MkF}{pos:Bool}{d:Dk}{g:List Ty}{t:Ty}(h:∀d g t,d.ok->(rec d g t).2.ok)(hd:d.ok):(d.gen rec pos g t).2.ok:=by
 unfold Dk.gen;repeat' split
 ·exact Dk.mid_ok h hd
 ·exact Dk.next_ok (Dk.next_ok hd 3) _
 ·exact Dk.mid_ok h (Dk.next_ok hd 3)
theorem Dk.tm_ok:∀(n:Nat) (d:Dk) (g:List Ty) (t:Ty),d.ok->(Dk.tm n d g t).2.ok
 |0,d,_,_,h=>h
 |n+1,d,g,t,h=>Dk.gen_ok (fun d g t hd=>Dk.tm_ok n d g t hd) h
theorem Ty.err_iff(t:Ty):t.err=0↔t.shape=true/\t.size<=64:=by
 simp only[Ty.err]
 grind
theorem Ty.err_args{t x:Ty}(h:t.err=0)(hx:x∈t.args):x.err=0:=by
 rw[Ty.err_iff] at h ⊢;have h1:=zc Ty.size hx;have h2:=t.size_eq;have h3:=h.1;rw[Ty.shape_eq,Bool.and_eq_true] at h3
 grind
theorem Ty.args_two{t:Ty}(h:t.shape=true)(hk:t.kind=3\/t.kind=4):∃x y,t.args=[x,y]:=by
 rw[Ty.shape_eq,Bool.and_eq_true] at h;have h1:arT t.kind=some 2:=by rcases hk with hk|hk<;>rw[hk]<;>rfl
 have h2:=h.1;rw[h1] at h2;simp at h2
 match hl:t.args,h2 with
 |[x,y],_=>simp
theorem Zn4{l:List Ty}{i:Nat}(h:i<l.length):at0 l i=l[i]:=by simp[at0,h]
theorem Zls{l:List Ty}{i:Nat}(h:i<l.length):at0 l i∈l:=by rw[Zn4 h];simp
@[simp] theorem Zdp(x:Ty)(l:List Ty):at0 (x::l) 0=x:=rfl
@[simp] theorem Zgi(x y:Ty)(l:List Ty):at0 (x::y::l) 1=y:=rfl
@[simp] theorem Zp2(x y z:Ty)(l:List Ty):at0 (x::y::z::l) 2=z:=rfl
theorem Tm.infs_err(g:List Ty):∀(xs:List Tm) (m:Nat) (hm:m<xs.length),(∀j (hj:j<xs.length),j<m->(xs[j].inf g).2=0)->(xs[m].inf g).2≠0->Tm.infs g xs=([],(xs[m].inf g).2):=by
 intro xs;induction xs with
 |nil=>simp
 |cons x l ih=>
  intro m hm h h1;cases m with
  |zero=>simp only[List.getElem_cons_zero] at h1 ⊢;simp only[Tm.infs];grind
  |succ m=>
   have h0:=h 0 (by simp) (by omega);simp only[List.getElem_cons_zero] at h0;simp only[List.length_cons] at hm;have h2:=ih m (by omega) (fun j hj hlt=>by grind) (by grind);simp only[List.getElem_cons_succ] at h1 ⊢;simp only[Tm.infs,h0,ne_eq,not_true_eq_false,if_false,h2,h1,not_false_eq_true,if_true]
theorem Tm.infs_ok(g:List Ty):∀(xs:List Tm),(∀x∈xs,(x.inf g).2=0)->Tm.infs g xs=(xs.map fun x=>(x.inf g).1,0):=by
 intro xs;induction xs with
 |nil=>intro _;rfl
 |cons x l ih=>
  intro h;have h0:=h x (by simp);have h1:=ih fun y hy=>h y (by grind);simp only[Tm.infs,h0,h1,ne_eq,not_true_eq_false,if_false,List.map_cons]
theorem Tm.infs_all(g:List Ty):∀(xs:List Tm),(Tm.infs g xs).2=0->∀x∈xs,(x.inf g).2=0:=by
 intro xs;induction xs with
 |nil=>simp
 |cons y l ih=>
  intro h x hx;simp only[Tm.infs] at h
  grind
theorem Tm.inf_eq(g:List Ty)(t:Tm):t.inf g=(if t.kind=1 then(if t.index>=g.length then(noTy,6) else(at0 g (g.length-1-t.index.toNat),0))
 else if t.kind=2 then(if(Tm.infs (g++[t.ty]) t.args).2≠0 then(noTy,(Tm.infs (g++[t.ty]) t.args).2) else okT (xj t.ty (at0 (Tm.infs (g++[t.ty]) t.args).1 0)))
 else if(Tm.infs g t.args).2≠0 then(noTy,(Tm.infs g t.args).2) else Zaf t.kind t.ty (Tm.infs g t.args).1):=by
 cases t;rfl
theorem Zte{t:Ty}(h:(okT t).2=0):(okT t).1.err=0:=by
 simp only[okT] at h ⊢;grind
theorem Ze2{t:Tm}(h:t.shape=true):arK t.kind=some t.args.length:=by
 rw[Tm.shape_eq,Bool.and_eq_true] at h;have h1:=h.1;simp only[Tm.head,Bool.and_eq_true] at h1
 grind
theorem zd{t:Tm}(h:t.shape=true):∀x∈t.args,x.shape=true:=by
 rw[Tm.shape_eq,Bool.and_eq_true] at h
 grind
theorem Zc6{t:Tm}(h:t.shape=true):0<=t.index/\(t.kind≠1->t.index=0):=by
 rw[Tm.shape_eq,Bool.and_eq_true] at h;have h1:=h.1;simp only[Tm.head,Bool.and_eq_true,decide_eq_true_eq,Bool.or_eq_true,beq_iff_eq] at h1;omega
theorem Zlw{t:Tm}(h:t.shape=true)(hk:we t.kind=true):t.ty.err=0:=by
 rw[Tm.shape_eq,Bool.and_eq_true] at h;have h1:=h.1;simp only[Tm.head,Bool.and_eq_true,hk,cond_true] at h1;have h2:=h1.2;simp only[Ty.ok,Bool.and_eq_true,decide_eq_true_eq] at h2;exact(Ty.err_iff _).2 h2
theorem Znr{k:Int}{n:Nat}(h:arK k=some n):(n=0/\(k=1\/k=4\/k=7\/k=13))\/(n=1/\(k=2\/k=5\/k=11\/k=12))\/(n=2/\(k=3\/k=8\/k=10))\/(n=3/\(k=6\/k=9)):=by
 simp only[arK] at h
 grind
theorem len1{α:Type}{l:List α}(h:l.length=1):l=[l[0]'(by omega)]:=by
 match l,h with
 |[x],_=>rfl
theorem Ygj{α:Type}{l:List α}(h:l.length=1):∃x,l=[x]:=⟨_,len1 h⟩
theorem Ydi{α:Type}{l:List α}(h:l.length=2):∃x y,l=[x,y]:=by
 match l,h with
 |[x,y],_=>simp
theorem Yi1{α:Type}{l:List α}(h:l.length=3):∃x y z,l=[x,y,z]:=by
 match l,h with
 |[x,y,z],_=>simp
theorem Yat{k:Int}{h:Ty}{l:List Ty}(hk:arK k=some l.length)(hl:∀x∈l,x.err=0)(hh:we k=true->h.err=0)(h0:(Zaf k h l).2=0):(Zaf k h l).1.err=0:=by
 have h1:∀i,i<l.length->(at0 l i).err=0:=fun i hi=>hl _ (Zls hi);have h2:∀i,i<l.length->(at0 l i).kind=3\/(at0 l i).kind=4->∀j,j<2->(at0 (at0 l i).args j).err=0:=by
  intro i hi hk j hj;obtain⟨x,y,hxy⟩:=Ty.args_two ((Ty.err_iff _).1 (h1 i hi)).1 hk;refine Ty.err_args (h1 i hi) ?_;exact Zls (by grind)
 rcases Znr hk with⟨hn,hk⟩|⟨hn,hk⟩|⟨hn,hk⟩|⟨hn,hk⟩
 ·rcases hk with rfl|rfl|rfl|rfl<;>rfl
 ·rcases hk with rfl|rfl|rfl|rfl
  ·rfl
  ·simp only[Zaf] at h0 ⊢;grind
  ·simp only[Zaf] at h0 ⊢;grind
  ·simp only[Zaf] at h0 ⊢;grind
 ·rcases hk with rfl|rfl|rfl
  ·simp only[Zaf] at h0 ⊢
   grind
  ·simp only[Zaf] at h0 ⊢;grind
  ·simp only[Zaf] at h0 ⊢;simp at h0 ⊢;exact Zte h0
 ·rcases hk with rfl|rfl
  ·simp only[Zaf] at h0 ⊢;grind
  ·simp only[Zaf] at h0 ⊢;grind
theorem Tm.inf_good(t:Tm):∀g:List Ty,t.shape=true->(∀x∈g,x.err=0)->(t.inf g).2=0->(t.inf g).1.err=0:=by
 induction t using Tm.ind with
 |h t ih=>
  intro g hsh hg h0;rw[Tm.inf_eq] at h0 ⊢;by_cases h1:t.kind=1
  ·simp only[h1,if_true] at h0 ⊢;by_cases h2:t.index>=g.length
   ·grind
   ·rw[if_neg h2];have:=(Zc6 hsh).1;exact hg _ (Zls (by omega))
  ·simp only[h1,if_false] at h0 ⊢;by_cases h2:t.kind=2
   ·simp only[h2,if_true] at h0 ⊢;by_cases h3:(Tm.infs (g++[t.ty]) t.args).2=0
    ·simp only[h3,ne_eq,not_true_eq_false,if_false] at h0 ⊢;exact Zte h0
    grind
   ·simp only[h2,if_false] at h0 ⊢;by_cases h3:(Tm.infs g t.args).2=0
    ·simp only[h3,ne_eq,not_true_eq_false,if_false] at h0 ⊢;have h4:=Tm.infs_all g t.args h3;have h5:=Tm.infs_ok g t.args h4;rw[h5] at h0 ⊢;refine Yat (by rw[Ze2 hsh];simp) ?_ (Zlw hsh) h0;intro x hx;obtain⟨y,hy,rfl⟩:=List.mem_map.1 hx;exact ih y hy g (zd hsh y hy) hg (h4 y hy)
    grind
theorem Zcq{t:Ty}(h:t.shape=true)(hk:t.kind=1\/t.kind=2\/t.kind=5):t.args=[]:=by
 rw[Ty.shape_eq,Bool.and_eq_true] at h;have h1:arT t.kind=some 0:=by rcases hk with hk|hk|hk<;>rw[hk]<;>rfl
 grind
theorem Zu0{t:Ty}(h:t.shape=true):t.kind=1\/t.kind=2\/t.kind=5\/t.kind=3\/t.kind=4:=by
 rw[Ty.shape_eq,Bool.and_eq_true] at h;have h2:=h.1;split at h2
 ·rename_i n hn;simp only[arT] at hn
  grind
 grind
theorem Zjl{t:Ty}(h:t.shape=true):t=natT\/t=listT\/t=Zml\/∃a b,a.shape=true/\b.shape=true/\(t=Zdm a b\/t=xj a b):=by
 have h0:=h;rw[Ty.shape_eq,Bool.and_eq_true] at h0;rcases Zu0 h with hk|hk|hk|hk|hk
 ·exact .inl ((Ty.eq_iff _ _).2 ⟨hk,Zcq h (by omega)⟩)
 ·exact .inr (.inl ((Ty.eq_iff _ _).2 ⟨hk,Zcq h (by omega)⟩))
 ·exact .inr (.inr (.inl ((Ty.eq_iff _ _).2 ⟨hk,Zcq h (by omega)⟩)))
 ·obtain ⟨a,b,hab⟩:=Ty.args_two h (.inl hk);have:=List.all_eq_true.1 h0.2;rw[hab] at this;exact .inr (.inr (.inr ⟨a,b,this a (by simp),this b (by simp),.inl ((Ty.eq_iff _ _).2 ⟨hk,hab⟩)⟩))
 ·obtain ⟨a,b,hab⟩:=Ty.args_two h (.inr hk);have:=List.all_eq_true.1 h0.2;rw[hab] at this;exact .inr (.inr (.inr ⟨a,b,this a (by simp),this b (by simp),.inr ((Ty.eq_iff _ _).2 ⟨hk,hab⟩)⟩))
theorem Za7(a b:Ty):(Zdm a b).size=1+(a.size+b.size):=by rfl
theorem vu(a b:Ty):(xj a b).size=1+(a.size+b.size):=by rfl
theorem Zez{t:Ty}(h:t.small):t=natT\/t=listT\/t=Zml\/∃a b,a.shape=true/\b.shape=true/\a.size=1/\b.size=1/\(t=Zdm a b\/t=xj a b):=by
 obtain⟨h1,h2⟩:=h;rcases Zjl h1 with h3|h3|h3|⟨a,b,ha,hb,h3⟩
 ·grind
 ·grind
 ·grind
 ·have pa:=a.size_pos;have pb:=b.size_pos;refine .inr (.inr (.inr ⟨a,b,ha,hb,?_,?_,h3⟩))<;>rcases h3 with rfl|rfl<;>(first|rw[Za7] at h2|rw[vu] at h2)<;>omega
theorem z8{t:Ty}(h:t.shape=true)(h1:t.size=1):t.small:=⟨h,by omega⟩
theorem zh:natT.small:=⟨rfl,by decide⟩
theorem xe:listT.small:=⟨rfl,by decide⟩
theorem zj{g l:List Ty}(h:smalls g)(h1:smalls l):smalls (g++l):=fun t ht=>by
 rcases List.mem_append.1 ht with ht|ht
 ·exact h t ht
 ·exact h1 t ht
theorem ze{t:Ty}{l:List Ty}(h:t.small)(h1:smalls l):smalls (t::l):=fun x hx=>by
 rcases List.mem_cons.1 hx with rfl|hx
 ·exact h
 ·exact h1 x hx
theorem zi:smalls []:=fun t ht=>by cases ht
theorem Zj0{g:List Ty}(h:smalls g){i:Nat}(hi:i<g.length):(at0 g (g.length-1-i)).small:=h _ (Zls (by omega))
theorem Dk.type0(d:Dk):(d.type 0).1.shape=true/\(d.type 0).1.size=1:=by
 simp only[Dk.type];(repeat' split)<;>exact⟨rfl,rfl⟩
theorem Zh6(d:Dk):∃m,m<3/\Zhy (d.next 3).1=Zb1 m:=by
 have h:=Dk.next_bd d 3 (by omega);refine⟨(d.next 3).1.toNat,by omega,?_⟩;rw[Zhy,if_pos (by omega)]
theorem Zze{g:List Ty}{t:Ty}{i:Int}(h:i∈vj g t):∃j:Nat,i=j/\j<g.length/\at0 g (g.length-1-j)=t:=by
 simp only[vj,List.mem_map,List.mem_filter,List.mem_range,decide_eq_true_eq] at h;obtain⟨j,⟨h1,h2⟩,rfl⟩:=h;refine⟨j,rfl,h1,?_⟩;simp only[at0,List.getD_eq_getElem?_getD,h2,Option.getD_some]
theorem Zut{g:List Ty}{t:Ty}(d:Dk)(h:¬vj g t=[]):∃j:Nat,(vj g t).getD (d.next (vj g t).length).1.toNat 0=j/\j<g.length/\at0 g (g.length-1-j)=t:=by
 have hl:0<(vj g t).length:=List.length_pos_iff.2 h;have hb:=Dk.next_bd d (vj g t).length (by omega);have hlt:(d.next (vj g t).length).1.toNat<(vj g t).length:=by omega
 have:(vj g t).getD (d.next (vj g t).length).1.toNat 0∈vj g t:=by
  grind
 exact Zze this
theorem Zvc{g:List Ty}{t:Ty}{i:Nat}(h:Zvh g t=some i):i<g.length/\Zu6 g t i=true:=by
 have:=List.find?_some h;have h2:=List.mem_of_find?_eq_some h
 grind
theorem Ycv{g:List Ty}{t:Ty}{i:Nat}(hg:smalls g)(hi:i<g.length)(h:Zu6 g t i=true):∃s,s.shape=true/\s.size=1/\at0 g (g.length-1-i)=xj s t:=by
 simp only[Zu6,Bool.and_eq_true,beq_iff_eq,decide_eq_true_eq] at h;have hs:=Zj0 hg hi;rcases Zez hs with h3|h3|h3|⟨a,b,ha,hb,h1,h2,h3|h3⟩
 ·rw[h3] at h;exact absurd h.1 (by decide)
 ·rw[h3] at h;exact absurd h.1 (by decide)
 ·rw[h3] at h;exact absurd h.1 (by decide)
 ·rw[h3] at h;exact absurd h.1 (by simp[Zdm])
 ·refine ⟨a,ha,h1,?_⟩;have:=h.2;rw[h3] at this ⊢;simp only[xj,Ty.args_mk,Zgi] at this
  grind
abbrev Yck(rec:MkF)(n:Nat):Prop:=∀d g t,smalls g->t.small->1<=n->(n=1->t.size=1)->Mk n g t (rec d g t).1
theorem Dk.fin_mk{rec:MkF}{n:Nat}{pos:Bool}{d:Dk}{g:List Ty}{t:Ty}(H:Yck rec n)(hp:pos=true->2<=n)(hg:smalls g)(ht:t.small)(h0:n=0->t.size=1):Mk (n+1) g t (d.fin rec pos g t).1:=by
 rcases Zez ht with rfl|rfl|rfl|⟨a,b,ha,hb,h1,h2,rfl|rfl⟩
 ·unfold Dk.fin;rw[if_pos (show natT.kind=1 from rfl)];by_cases hpos:pos=true
  ·have hn:=hp hpos;have hr:∀d,Mk n g natT (rec d g natT).1:=fun d=>H d g natT hg zh (by omega) (by omega);rw[if_pos hpos];split
   ·exact .succ n g _ hn (hr _)
   ·split
    ·exact .plus n g _ _ hn (hr _) (hr _)
    ·split
     ·exact .sub n g _ _ hn (hr _) (hr _)
     ·obtain ⟨m,hm,e⟩:=Zh6 (d.next 5).2;simp only[e];exact .num n g m hm
  ·rw[if_neg hpos];obtain⟨m,hm,e⟩:=Zh6 d;simp only[e];exact .num n g m hm
 ·unfold Dk.fin;rw[if_neg (by decide),if_pos (show listT.kind=2 from rfl)];by_cases hpos:pos=true
  ·have hn:=hp hpos;rw[if_pos hpos];split
   ·exact .cons n g _ _ hn (H _ g natT hg zh (by omega) (by omega)) (H _ g listT hg xe (by omega) (by omega))
   ·exact .nil n g
  ·rw[if_neg hpos];exact .nil n g
 ·unfold Dk.fin;rw[if_neg (by decide),if_neg (by decide),if_neg (by decide),if_neg (by decide)];exact .unit n g
 ·unfold Dk.fin;rw[if_neg (by simp[Zdm]),if_neg (by simp[Zdm]),if_pos (show(Zdm a b).kind=3 from rfl)];have:n≠0:=fun h=>by have:=h0 h;rw[Za7] at this;omega
  exact .pair n g a b _ _ h1 h2 (H _ g a hg (z8 ha h1) (by omega) fun _=>h1) (H _ g b hg (z8 hb h2) (by omega) fun _=>h2)
 ·unfold Dk.fin;rw[if_neg (by simp[xj]),if_neg (by simp[xj]),if_neg (by simp[xj]),if_pos (show(xj a b).kind=4 from rfl)];have:n≠0:=fun h=>by have:=h0 h;rw[vu] at this;omega
  exact .lam n g a b _ h1 h2 (H _ (g++[a]) b (zj hg (ze (z8 ha h1) zi)) (z8 hb h2) (by omega) fun _=>h2)
theorem Dk.mid_mk{rec:MkF}{n:Nat}{pos:Bool}{d:Dk}{g:List Ty}{t:Ty}(H:Yck rec n)(hp:pos=true->2<=n)(hg:smalls g)(ht:t.small)(h0:n=0->t.size=1):Mk (n+1) g t (d.mid rec pos g t).1:=by
 unfold Dk.mid Dk.m0 Dk.m1 Dk.m2 Dk.m3 Dk.m4 Dk.m5;by_cases hpos:pos=true
 ·have hn:=hp hpos;have hs:=Dk.type0 (d.next 8).2;have hss:=z8 hs.1 hs.2;rw[if_pos hpos];split
  ·exact .app n g t _ _ _ hn hs.1 hs.2 (H _ _ _ (zj hg (ze hss zi)) ht (by omega) (by omega)) (H _ _ _ hg hss (by omega) (by omega))
  ·split
   ·exact .fst n g t _ _ _ hn hs.1 hs.2 (H _ _ _ hg ht (by omega) (by omega)) (H _ _ _ hg hss (by omega) (by omega))
   ·split
    ·obtain ⟨m,hm,e⟩:=Zh6 (rec (rec (d.next 8).2 (g++[natT,t]) t).2 g t).2;simp only[e];exact .recu n g t _ _ m hn hm (H _ _ _ (zj hg (ze zh (ze ht zi))) ht (by omega) (by omega)) (H _ _ _ hg ht (by omega) (by omega))
    ·split
     ·exact .fold n g t _ _ _ hn (H _ _ _ (zj hg (ze zh (ze xe (ze ht zi)))) ht (by omega) (by omega)) (H _ _ _ hg ht (by omega) (by omega)) (H _ _ _ hg xe (by omega) (by omega))
     ·split
      ·exact .snd n g t _ _ _ hn hs.1 hs.2 (H _ _ _ hg hss (by omega) (by omega)) (H _ _ _ hg ht (by omega) (by omega))
      ·split
       ·split
        ·rename_i i hi;obtain⟨h1,h2⟩:=Zvc hi;obtain⟨s,h3,h4,h5⟩:=Ycv hg h1 h2;simp only[h5,xj,Ty.args_mk,Zdp];exact .ctx n g t s _ hn i h1 h5 h4 (H _ _ _ hg (z8 h3 h4) (by omega) (by omega))
        ·exact Dk.fin_mk H hp hg ht h0
       ·exact Dk.fin_mk H hp hg ht h0
 ·rw[if_neg hpos];exact Dk.fin_mk H hp hg ht h0
theorem Dk.gen_mk{rec:MkF}{n:Nat}{pos:Bool}{d:Dk}{g:List Ty}{t:Ty}(H:Yck rec n)(hp:pos=true->2<=n)(hg:smalls g)(ht:t.small)(h0:n=0->t.size=1):Mk (n+1) g t (d.gen rec pos g t).1:=by
 unfold Dk.gen;split
 ·exact Dk.mid_mk H hp hg ht h0
 ·rename_i hl;split
  ·obtain ⟨j,e,h1,h2⟩:=Zut (d.next 3).2 hl;simp only[e];exact .var n g t j h1 h2
  ·exact Dk.mid_mk H hp hg ht h0
theorem Dk.tm_mk:∀n,Yck (Dk.tm n) n
 |0=>fun d g t _ _ h _=>by omega
 |n+1=>fun d g t hg ht _ h1=>Dk.gen_mk (Dk.tm_mk n) (by simp) hg ht (by omega)
theorem Zfo:∀m,(Zb1 m).full=2*(m+1)
 |0=>rfl
 |m+1=>by simp[Zb1,Tm.full,Tm.fulls,Zfo m,Ty.size,Ty.sizes];omega
theorem Mk.full{n:Nat}{g:List Ty}{t:Ty}{x:Tm}(h:Mk n g t x):smalls g->t.small->x.full+20<=20*3^n:=by
 have e1:noTy.size=1:=rfl;have e2:(Ty.mk 0 []).size=1:=rfl;have p:∀n,1<=3^n:=fun n=>Nat.one_le_pow _ _ (by omega);have q:∀n,3^(n+1)=3*3^n:=fun n=>by omega
 induction h with
 |var n g t i hi h=>intro hg ht;have:=p n;have:=q n;simp[vT,Tm.full,Tm.fulls,e2];omega
 |app n g t s a b hn hs h1 ha hb iha ihb=>
  intro hg ht;have:=iha (zj hg (ze (z8 hs h1) zi)) ht;have:=ihb hg (z8 hs h1);have:=p n;have:=q n;simp[apT,lmT,Tm.full,Tm.fulls,e2,h1];omega
 |fst n g t s a b hn hs h1 ha hb iha ihb=>
  intro hg ht;have:=iha hg ht;have:=ihb hg (z8 hs h1);have:=p n;have:=q n;simp[nT,Tm.full,Tm.fulls,e2];omega
 |snd n g t s a b hn hs h1 ha hb iha ihb=>
  intro hg ht;have:=iha hg (z8 hs h1);have:=ihb hg ht;have:=p n;have:=q n;simp[nT,Tm.full,Tm.fulls,e2];omega
 |recu n g t a b m hn hm ha hb iha ihb=>
  intro hg ht;have:=iha (zj hg (ze zh (ze ht zi))) ht;have:=ihb hg ht;have:=ht.2;have:=p n;have:=q n;have e3:natT.size=1:=rfl;simp[hT,lmT,Tm.full,Tm.fulls,e3,Zfo];omega
 |fold n g t a b c hn ha hb hc iha ihb ihc=>
  intro hg ht;have:=iha (zj hg (ze zh (ze xe (ze ht zi)))) ht;have:=ihb hg ht;have:=ihc hg xe;have:=ht.2;have:=p n;have:=q n;have e3:natT.size=1:=rfl;have e4:listT.size=1:=rfl;simp[hT,lmT,Tm.full,Tm.fulls,e3,e4];omega
 |ctx n g t s a hn i hi h h1 ha iha=>
  intro hg ht;have hs:s.shape=true:=by
   have:=Zj0 hg hi;rw[h] at this;have:=List.all_eq_true.1 ((Bool.and_eq_true _ _).mp ((Ty.shape_eq _).symm.trans this.1)).2 s (by simp[xj]);omega
  have:=iha hg (z8 hs h1);have:=p n;have:=q n;simp[apT,vT,Tm.full,Tm.fulls,e2];omega
 |succ n g a hn ha iha=>intro hg ht;have:=iha hg zh;have:=p n;have:=q n;simp[sT,Tm.full,Tm.fulls,e2];omega
 |plus n g a b hn ha hb iha ihb=>
  intro hg ht;have:=iha hg zh;have:=ihb hg zh;have:=p n;have:=q n;have e5:plusT.full<=18:=by decide
  simp[apT,Tm.full,Tm.fulls,e2];omega
 |sub n g a b hn ha hb iha ihb=>
  intro hg ht;have:=iha hg zh;have:=ihb hg zh;have:=p n;have:=q n;have e5:subT.full<=36:=by decide
  simp[apT,Tm.full,Tm.fulls,e2];omega
 |num n g m hm=>intro hg ht;have:=p n;have:=q n;rw[Zfo];omega
 |cons n g a b hn ha hb iha ihb=>
  intro hg ht;have:=iha hg zh;have:=ihb hg xe;have:=p n;have:=q n;simp[nT,Tm.full,Tm.fulls,e2];omega
 |nil n g=>intro hg ht;have:=p n;have:=q n;simp[nT,Tm.full,Tm.fulls,e2];omega
 |pair n g s t a b h1 h2 ha hb iha ihb=>
  intro hg ht;have hs:=List.all_eq_true.1 ((Bool.and_eq_true _ _).mp ((Ty.shape_eq _).symm.trans ht.1)).2;have:=iha hg (z8 (hs s (by simp[Zdm])) h1);have:=ihb hg (z8 (hs t (by simp[Zdm])) h2);have:=p n;have:=q n;simp[nT,Tm.full,Tm.fulls,e2];omega
 |lam n g s t a h1 h2 ha iha=>
  intro hg ht;have hs:=List.all_eq_true.1 ((Bool.and_eq_true _ _).mp ((Ty.shape_eq _).symm.trans ht.1)).2;have:=iha (zj hg (ze (z8 (hs s (by simp[xj])) h1) zi)) (z8 (hs t (by simp[xj])) h2);have:=p n;have:=q n;simp[lmT,Tm.full,Tm.fulls,h1];omega
 |unit n g=>intro hg ht;have:=p n;have:=q n;simp[nT,Tm.full,Tm.fulls,e2];omega
theorem Zcc{k:Int}{a b:Ty}(h:(Ty.mk k [a,b]).shape=true):a.shape=true/\b.shape=true:=by
 have hs:=List.all_eq_true.1 ((Bool.and_eq_true _ _).mp ((Ty.shape_eq _).symm.trans h)).2;simp_all
theorem Mk.ind{P:Nat->List Ty->Ty->Tm->Prop}
 (var:∀n g t (i:Nat),i<g.length->at0 g (g.length-1-i)=t->smalls g->t.small->P (n+1) g t (vT i))
 (app:∀n g t s a b,2<=n->s.shape=true->s.size=1->smalls g->t.small->P n (g++[s]) t a->P n g s b->P (n+1) g t (apT (lmT s a) b))
 (fst:∀n g t s a b,2<=n->s.shape=true->s.size=1->smalls g->t.small->P n g t a->P n g s b->P (n+1) g t (nT 11 [nT 10 [a,b]]))
 (snd:∀n g t s a b,2<=n->s.shape=true->s.size=1->smalls g->t.small->P n g s a->P n g t b->P (n+1) g t (nT 12 [nT 10 [a,b]]))
 (recu:∀n g t a b m,2<=n->m<3->smalls g->t.small->P n (g++[natT,t]) t a->P n g t b->P (n+1) g t (hT 6 t [b,lmT natT (lmT t a),Zb1 m]))
 (fold:∀n g t a b c,2<=n->smalls g->t.small->P n (g++[natT,listT,t]) t a->P n g t b->P n g listT c->P (n+1) g t (hT 9 t [b,lmT natT (lmT listT (lmT t a)),c]))
 (ctx:∀n g t s a (i:Nat),2<=n->i<g.length->at0 g (g.length-1-i)=xj s t->s.shape=true->s.size=1->smalls g->t.small->P n g s a->P (n+1) g t (apT (vT i) a))
 (succ:∀n g a,2<=n->smalls g->P n g natT a->P (n+1) g natT (sT a))
 (plus:∀n g a b,2<=n->smalls g->P n g natT a->P n g natT b->P (n+1) g natT (apT (apT plusT a) b))
 (sub:∀n g a b,2<=n->smalls g->P n g natT a->P n g natT b->P (n+1) g natT (apT (apT subT a) b))
 (num:∀n g m,m<3->smalls g->P (n+1) g natT (Zb1 m))
 (cons:∀n g a b,2<=n->smalls g->P n g natT a->P n g listT b->P (n+1) g listT (nT 8 [a,b]))
 (nil:∀n g,smalls g->P (n+1) g listT (nT 7 []))
 (pair:∀n g s t a b,s.shape=true->t.shape=true->s.size=1->t.size=1->1<=n->smalls g->P n g s a->P n g t b->P (n+1) g (Zdm s t) (nT 10 [a,b]))
 (lam:∀n g s t a,s.shape=true->t.shape=true->s.size=1->t.size=1->1<=n->smalls g->P n (g++[s]) t a->P (n+1) g (xj s t) (lmT s a))
 (unit:∀n g,smalls g->P (n+1) g Zml (nT 13 []))
 {n:Nat} {g:List Ty} {t:Ty} {x:Tm} (h:Mk n g t x):smalls g->t.small->P n g t x:=by
 have one:∀{n g t x},Mk n g t x->1<=n:=fun h=>by cases h<;>omega
 induction h with
 |var n g t i hi h=>grind
 |app n g t s a b hn hs h1 ha hb iha ihb=>exact fun hg ht=>app n g t s a b hn hs h1 hg ht (iha (zj hg (ze (z8 hs h1) zi)) ht) (ihb hg (z8 hs h1))
 |fst n g t s a b hn hs h1 ha hb iha ihb=>exact fun hg ht=>fst n g t s a b hn hs h1 hg ht (iha hg ht) (ihb hg (z8 hs h1))
 |snd n g t s a b hn hs h1 ha hb iha ihb=>exact fun hg ht=>snd n g t s a b hn hs h1 hg ht (iha hg (z8 hs h1)) (ihb hg ht)
 |recu n g t a b m hn hm ha hb iha ihb=>exact fun hg ht=>recu n g t a b m hn hm hg ht (iha (zj hg (ze zh (ze ht zi))) ht) (ihb hg ht)
 |fold n g t a b c hn ha hb hc iha ihb ihc=>exact fun hg ht=>fold n g t a b c hn hg ht (iha (zj hg (ze zh (ze xe (ze ht zi)))) ht) (ihb hg ht) (ihc hg xe)
 |ctx n g t s a hn i hi h h1 ha iha=>
  intro hg ht;have hs:s.shape=true:=by
   have:=Zj0 hg hi;rw[h] at this;exact(Zcc this.1).1
  exact ctx n g t s a i hn hi h hs h1 hg ht (iha hg (z8 hs h1))
 |succ n g a hn ha iha=>grind
 |plus n g a b hn ha hb iha ihb=>grind
 |sub n g a b hn ha hb iha ihb=>grind
 |num n g m hm=>grind
 |cons n g a b hn ha hb iha ihb=>exact fun hg ht=>cons n g a b hn hg (iha hg zh) (ihb hg xe)
 |nil n g=>grind
 |pair n g s t a b h1 h2 ha hb iha ihb=>exact fun hg ht=>have hs:=Zcc ht.1;pair n g s t a b hs.1 hs.2 h1 h2 (one ha) hg (iha hg (z8 hs.1 h1)) (ihb hg (z8 hs.2 h2))
 |lam n g s t a h1 h2 ha iha=>exact fun hg ht=>have hs:=Zcc ht.1;lam n g s t a hs.1 hs.2 h1 h2 (one ha) hg (iha (zj hg (ze (z8 hs.1 h1) zi)) (z8 hs.2 h2))
 |unit n g=>grind
@[simp] theorem Zp3(a b:Ty):(xj a b).kind=4:=rfl
@[simp] theorem Zpr(a b:Ty):(xj a b).args=[a,b]:=rfl
@[simp] theorem Yk0(a b:Ty):(Zdm a b).kind=3:=rfl
@[simp] theorem Ykg(a b:Ty):(Zdm a b).args=[a,b]:=rfl
theorem Yez{t:Ty}(h:t.err=0):okT t=(t,0):=if_pos h
theorem ud{t:Ty}(h:t.small):t.err=0:=(Ty.err_iff t).2 ⟨h.1,by have:=h.2;omega⟩
theorem Zbp{a b:Ty}(ha:a.shape=true)(hb:b.shape=true):(xj a b).shape=true:=by simp[Ty.shape_eq (xj a b),ha,hb,arT]
theorem Zij{a b:Ty}(ha:a.shape=true)(hb:b.shape=true):(Zdm a b).shape=true:=by simp[Ty.shape_eq (Zdm a b),ha,hb,arT]
theorem Zgv{a b:Ty}(ha:a.shape=true)(hb:b.shape=true)(h:a.size+b.size<=60):(xj a b).err=0:=(Ty.err_iff _).2 ⟨Zbp ha hb,by rw[vu];omega⟩
theorem Zqh{a b:Ty}(ha:a.shape=true)(hb:b.shape=true)(h:a.size+b.size<=60):(Zdm a b).err=0:=(Ty.err_iff _).2 ⟨Zij ha hb,by rw[Za7];omega⟩
def Zni(g:List Ty)(i:Nat):Ty:=at0 g (g.length-1-i)
theorem Zl7(g:List Ty)(i:Nat)(h:i<g.length):(vT i).inf g=(Zni g i,0):=by
 rw[Tm.inf_eq];have h1:¬((i:Int)>=(g.length:Int)):=by omega
 simp[vT,h1,Zni]
theorem Zjc(g:List Ty)(a:Ty):Zni (g++[a]) 0=a:=by simp[Zni,at0]
theorem Zpm(g:List Ty)(a:Ty)(i:Nat)(h:i<g.length):Zni (g++[a]) (i+1)=Zni g i:=by
 have e:g.length+1-1-(i+1)=g.length-1-i:=by omega
 simp only[Zni,at0,List.length_append,List.length_cons,List.length_nil,Nat.zero_add,e,List.getD_eq_getElem?_getD]
 grind
theorem Zov(g:List Ty)(a:Ty):(vT 0).inf (g++[a])=(a,0):=by
 have:=Zl7 (g++[a]) 0 (by simp);rw[Zjc] at this;omega
theorem Zx6(g:List Ty)(a b:Ty):(vT 1).inf (g++[a]++[b])=(a,0):=by
 have:=Zl7 (g++[a]++[b]) 1 (by simp);rw[Zpm (g++[a]) b 0 (by simp),Zjc] at this;omega
theorem ww{g:List Ty}{s t:Ty}{x:Tm}(h:x.inf (g++[s])=(t,0))(he:(xj s t).err=0):(lmT s x).inf g=(xj s t,0):=by
 rw[Tm.inf_eq];simp[lmT,Tm.infs,h,Yez he]
theorem Zdt{g:List Ty}{s t:Ty}{f x:Tm}(hf:f.inf g=(xj s t,0))(hx:x.inf g=(s,0)):(apT f x).inf g=(t,0):=by
 rw[Tm.inf_eq];simp[apT,Tm.infs,hf,hx,Zaf]
theorem Zna{g:List Ty}{x:Tm}(h:x.inf g=(natT,0)):(sT x).inf g=(natT,0):=by
 rw[Tm.inf_eq];simp[sT,Tm.infs,h,Zaf]
theorem Zln(g:List Ty):zT.inf g=(natT,0):=by
 rfl
theorem Zry(g:List Ty):∀m,(Zb1 m).inf g=(natT,0)
 |0=>Zln g
 |m+1=>Zna (Zry g m)
theorem Zmn{g:List Ty}{t:Ty}{b f x:Tm}(hb:b.inf g=(t,0))(hf:f.inf g=(xj natT (xj t t),0))(hx:x.inf g=(natT,0)):(hT 6 t [b,f,x]).inf g=(t,0):=by
 rw[Tm.inf_eq];simp[hT,Tm.infs,hb,hf,hx,Zaf]
theorem Ybj{g:List Ty}{t:Ty}{b f x:Tm}(hb:b.inf g=(t,0))(hf:f.inf g=(xj natT (xj listT (xj t t)),0))(hx:x.inf g=(listT,0)):(hT 9 t [b,f,x]).inf g=(t,0):=by
 rw[Tm.inf_eq];simp[hT,Tm.infs,hb,hf,hx,Zaf]
theorem Zih{g:List Ty}{s t:Ty}{a b:Tm}(ha:a.inf g=(s,0))(hb:b.inf g=(t,0))(he:(Zdm s t).err=0):(nT 10 [a,b]).inf g=(Zdm s t,0):=by
 rw[Tm.inf_eq];simp[nT,Tm.infs,ha,hb,Zaf,Yez he]
theorem Yfx{g:List Ty}{s t:Ty}{x:Tm}(h:x.inf g=(Zdm s t,0)):(nT 11 [x]).inf g=(s,0):=by
 rw[Tm.inf_eq];simp[nT,Tm.infs,h,Zaf]
theorem Yij{g:List Ty}{s t:Ty}{x:Tm}(h:x.inf g=(Zdm s t,0)):(nT 12 [x]).inf g=(t,0):=by
 rw[Tm.inf_eq];simp[nT,Tm.infs,h,Zaf]
theorem Ycg{g:List Ty}{a b:Tm}(ha:a.inf g=(natT,0))(hb:b.inf g=(listT,0)):(nT 8 [a,b]).inf g=(listT,0):=by
 rw[Tm.inf_eq];simp[nT,Tm.infs,ha,hb,Zaf]
theorem Zj5{a:Ty}(ha:a.shape=true)(h:a.size<=30):(xj natT a).err=0:=Zgv rfl ha (by have:natT.size=1:=rfl;omega)
theorem Yd0(g:List Ty):plusT.inf g=(xj natT (xj natT natT),0):=by
 refine ww (s:=natT) (ww (s:=natT) (Zmn (t:=natT) (Zx6 g natT natT) (ww (s:=natT) (ww (s:=natT) (Zna (Zov _ _)) rfl) rfl) (Zov _ _)) rfl) rfl
theorem Yd3(g:List Ty):predT.inf g=(xj natT natT,0):=by
 refine ww (s:=natT) (Zmn (t:=natT) (Zln _) (ww (s:=natT) (ww (s:=natT) (Zx6 _ natT natT) rfl) rfl) (Zov _ _)) rfl
theorem Yhs(g:List Ty):subT.inf g=(xj natT (xj natT natT),0):=by
 refine ww (s:=natT) (ww (s:=natT) (Zmn (t:=natT) (Zx6 g natT natT) (ww (s:=natT) (ww (s:=natT) (Zdt (Yd3 _) (Zov _ _)) rfl) rfl) (Zov _ _)) rfl) rfl
theorem Mk.inf{n:Nat}{g:List Ty}{t:Ty}{x:Tm}(h:Mk n g t x)(hg:smalls g)(ht:t.small):x.inf g=(t,0):=by
 refine Mk.ind (P:=fun n g t x=>x.inf g=(t,0)) ?_ ?_ ?_ ?_ ?_ ?_ ?_ ?_ ?_ ?_ ?_ ?_ ?_ ?_ ?_ ?_ h hg ht
 ·intro n g t i hi h _ _;rw[Zl7 g i hi];rw[<-h];rfl
 ·intro n g t s a b _ hs h1 _ ht ha hb;exact Zdt (ww ha (Zgv hs ht.1 (by have:=ht.2;omega))) hb
 ·intro n g t s a b _ hs h1 _ ht ha hb;exact Yfx (Zih ha hb (Zqh ht.1 hs (by have:=ht.2;omega)))
 ·intro n g t s a b _ hs h1 _ ht ha hb;exact Yij (Zih ha hb (Zqh hs ht.1 (by have:=ht.2;omega)))
 ·intro n g t a b m _ _ _ ht ha hb;have h2:=ht.2;refine Zmn hb (ww (ww (by grind) (Zgv ht.1 ht.1 (by omega))) (Zj5 (Zbp ht.1 ht.1) (by rw[vu];omega))) (Zry g m)
 ·intro n g t a b c _ _ ht ha hb hc;have h2:=ht.2;have e1:listT.size=1:=rfl;refine Ybj hb (ww (ww (ww (by grind) (Zgv ht.1 ht.1 (by omega))) (Zgv rfl (Zbp ht.1 ht.1) (by rw[vu];omega))) (Zj5 (Zbp rfl (Zbp ht.1 ht.1)) (by rw[vu,vu];omega))) hc
 ·intro n g t s a i _ hi h _ _ _ _ ha;exact Zdt (s:=s) (by rw[Zl7 g i hi];rw[<-h];rfl) ha
 ·intro n g a _ _ ha;exact Zna ha
 ·intro n g a b _ _ ha hb;exact Zdt (Zdt (Yd0 g) ha) hb
 ·intro n g a b _ _ ha hb;exact Zdt (Zdt (Yhs g) ha) hb
 ·intro n g m _ _;exact Zry g m
 ·intro n g a b _ _ ha hb;exact Ycg ha hb
 ·intro n g _;rfl
 ·intro n g s t a b hs ht h1 h2 _ _ ha hb;exact Zih ha hb (Zqh hs ht (by omega))
 ·intro n g s t a hs ht h1 h2 _ _ ha;exact ww ha (Zgv hs ht (by omega))
 ·intro n g _;rfl
theorem Zph:(Ty.mk 0 []).isNo=true:=rfl
theorem Zmj{k:Int}{l:List Tm}(hk:arK k=some l.length)(ht:we k=false)(h:∀x∈l,x.shape=true):(nT k l).shape=true:=by
 have:l.all Tm.shape=true:=List.all_eq_true.2 h;simp[nT,Tm.shape_eq,Tm.head,hk,ht,Zph,this]
theorem Zuz{t:Ty}(h1:t.shape=true)(h2:t.size<=64):t.ok=true:=by simp[Ty.ok,h1,h2]
theorem Zt6{k:Int}{s:Ty}{l:List Tm}(hk:arK k=some l.length)(ht:we k=true)(hs:s.ok=true)(h:∀x∈l,x.shape=true):(hT k s l).shape=true:=by
 have:l.all Tm.shape=true:=List.all_eq_true.2 h;simp[hT,Tm.shape_eq,Tm.head,hk,ht,hs,this]
theorem Zgb(i:Int)(h:0<=i):(vT i).shape=true:=by
 have:we 1=false:=rfl;simp[vT,Tm.shape_eq,Tm.head,arK,this,Zph,h]
theorem Zi4:∀m,(Zb1 m).shape=true
 |0=>rfl
 |m+1=>Zmj (k:=5) (l:=[Zb1 m]) rfl rfl (by simp[Zi4 m])
theorem vk{k:Int}{a b:Tm}(hk:arK k=some 2)(ht:we k=false)(ha:a.shape=true)(hb:b.shape=true):(nT k [a,b]).shape=true:=Zmj hk ht (by grind)
theorem Zhn{k:Int}{a:Tm}(hk:arK k=some 1)(ht:we k=false)(ha:a.shape=true):(nT k [a]).shape=true:=Zmj hk ht (by grind)
theorem Zb4{s:Ty}{a:Tm}(hs:s.ok=true)(ha:a.shape=true):(lmT s a).shape=true:=Zt6 (k:=2) rfl rfl hs (by grind)
theorem Zs3{k:Int}{s:Ty}{a b c:Tm}(hk:arK k=some 3)(ht:we k=true)(hs:s.ok=true)(ha:a.shape=true)(hb:b.shape=true)(hc:c.shape=true):(hT k s [a,b,c]).shape=true:=Zt6 hk ht hs (by grind)
theorem Mk.shape{n:Nat}{g:List Ty}{t:Ty}{x:Tm}(h:Mk n g t x)(hg:smalls g)(ht:t.small):x.shape=true:=by
 have ok:∀{t:Ty},t.small->t.ok=true:=fun h=>Zuz h.1 (by have:=h.2;omega);refine Mk.ind (P:=fun n g t x=>x.shape=true) ?_ ?_ ?_ ?_ ?_ ?_ ?_ ?_ ?_ ?_ ?_ ?_ ?_ ?_ ?_ ?_ h hg ht
 ·intro n g t i hi h _ _;exact Zgb _ (by omega)
 ·intro n g t s a b _ hs h1 _ ht ha hb;exact vk (k:=3) rfl rfl (Zb4 (ok (z8 hs h1)) ha) hb
 ·intro n g t s a b _ hs h1 _ ht ha hb;exact Zhn rfl rfl (vk rfl rfl ha hb)
 ·intro n g t s a b _ hs h1 _ ht ha hb;exact Zhn rfl rfl (vk rfl rfl ha hb)
 ·intro n g t a b m _ _ _ ht ha hb;exact Zs3 rfl rfl (ok ht) hb (Zb4 rfl (Zb4 (ok ht) ha)) (Zi4 m)
 ·intro n g t a b c _ _ ht ha hb hc;exact Zs3 rfl rfl (ok ht) hb (Zb4 rfl (Zb4 rfl (Zb4 (ok ht) ha))) hc
 ·intro n g t s a i _ hi h _ _ _ _ ha;exact vk (k:=3) rfl rfl (Zgb _ (by omega)) ha
 ·intro n g a _ _ ha;exact Zhn (k:=5) rfl rfl ha
 ·intro n g a b _ _ ha hb;exact vk (k:=3) rfl rfl (vk (k:=3) rfl rfl rfl ha) hb
 ·intro n g a b _ _ ha hb;exact vk (k:=3) rfl rfl (vk (k:=3) rfl rfl rfl ha) hb
 ·intro n g m _ _;exact Zi4 m
 ·intro n g a b _ _ ha hb;exact vk rfl rfl ha hb
 ·intro n g _;rfl
 ·intro n g s t a b hs ht h1 h2 _ _ ha hb;exact vk rfl rfl ha hb
 ·intro n g s t a hs ht h1 h2 _ _ ha;exact Zb4 (ok (z8 hs h1)) ha
 ·intro n g _;rfl
def s1:Nat->Nat
 |0=>3|1=>3|2=>3|3=>24|n+4=>3*s1 (n+3)+4
def s3:Nat->Nat
 |0=>7|1=>7|2=>7|3=>24|n+4=>3*s1 (n+3)+4
theorem Yid:∀n,3<=n->24<=s1 n
 |0,h=>by omega
 |1,h=>by omega
 |2,h=>by omega
 |3,_=>by decide
 |n+4,_=>by have:=Yid (n+3) (by omega);simp only[s1];omega
theorem Yi0:∀n,3<=n->s3 n=s1 n
 |0,h=>by omega
 |1,h=>by omega
 |2,h=>by omega
 |3,_=>rfl
 |n+4,_=>rfl
theorem Zd7(n:Nat)(hn:2<=n):3*s1 n+4<=s1 (n+1)/\2*s1 n+18<=s1 (n+1)/\2*s3 n+s1 n+4<=s3 (n+1)/\s1 (n+1)<=s3 (n+1)/\3<=s1 n/\s1 n<=s3 n/\2*s3 n+6<=s3 (n+1)/\s3 n+s1 n+2<=s3 (n+1):=by
 match n,hn with
 |2,_=>decide
 |n+3,_=>
  have h1:=Yid (n+3) (by omega);have h2:=Yi0 (n+3) (by omega);have h3:s1 (n+3+1)=3*s1 (n+3)+4:=rfl;have h4:s3 (n+3+1)=3*s1 (n+3)+4:=rfl;omega
theorem Ybd(n:Nat):3<=s1 n/\s1 n<=s3 n/\7<=s3 n:=by
 match n with
 |0=>decide
 |1=>decide
 |2=>decide
 |n+3=>have h1:=Yid (n+3) (by omega);have h2:=Yi0 (n+3) (by omega);omega
theorem Ye6(n:Nat)(hn:1<=n):2*s1 n+1<=s3 (n+1):=by
 match n,hn with
 |1,_=>decide
 |n+2,_=>have:=Zd7 (n+2) (by omega);omega
theorem Zis:∀m,(Zb1 m).size=m+1
 |0=>rfl
 |m+1=>by simp[Zb1,Tm.size,Tm.sizes,Zis m];omega
theorem Mk.size{n:Nat}{g:List Ty}{t:Ty}{x:Tm}(h:Mk n g t x)(hg:smalls g)(ht:t.small):x.size<=s3 n/\(t.size=1->x.size<=s1 n):=by
 have e1:natT.size=1:=rfl;have e2:listT.size=1:=rfl;refine Mk.ind (P:=fun n g t x=>x.size<=s3 n/\(t.size=1->x.size<=s1 n)) ?_ ?_ ?_ ?_ ?_ ?_ ?_ ?_ ?_ ?_ ?_ ?_ ?_ ?_ ?_ ?_ h hg ht
 ·intro n g t i hi h _ _;have:=Ybd (n+1);simp[vT,Tm.size,Tm.sizes];omega
 ·intro n g t s a b hn hs h1 _ ht ha hb;have:=Zd7 n hn;have:=hb.2 h1;simp[apT,lmT,Tm.size,Tm.sizes];omega
 ·intro n g t s a b hn hs h1 _ ht ha hb;have:=Zd7 n hn;have:=hb.2 h1;simp[nT,Tm.size,Tm.sizes];omega
 ·intro n g t s a b hn hs h1 _ ht ha hb;have:=Zd7 n hn;have:=ha.2 h1;simp[nT,Tm.size,Tm.sizes];omega
 ·intro n g t a b m hn hm _ ht ha hb;have:=Zd7 n hn;simp[hT,lmT,Tm.size,Tm.sizes,Zis];omega
 ·intro n g t a b c hn _ ht ha hb hc;have:=Zd7 n hn;have:=hc.2 e2;simp[hT,lmT,Tm.size,Tm.sizes];omega
 ·intro n g t s a i hn hi h _ h1 _ _ ha;have:=Zd7 n hn;have:=ha.2 h1;simp[apT,vT,Tm.size,Tm.sizes];omega
 ·intro n g a hn _ ha;have:=Zd7 n hn;have:=ha.2 e1;simp[sT,Tm.size,Tm.sizes];omega
 ·intro n g a b hn _ ha hb;have:=Zd7 n hn;have:=ha.2 e1;have:=hb.2 e1;have:plusT.size=9:=rfl;simp[apT,Tm.size,Tm.sizes];omega
 ·intro n g a b hn _ ha hb;have:=Zd7 n hn;have:=ha.2 e1;have:=hb.2 e1;have:subT.size=16:=rfl;simp[apT,Tm.size,Tm.sizes];omega
 ·intro n g m hm _;have:=Ybd (n+1);rw[Zis];omega
 ·intro n g a b hn _ ha hb;have:=Zd7 n hn;have:=ha.2 e1;have:=hb.2 e2;simp[nT,Tm.size,Tm.sizes];omega
 ·intro n g _;have:=Ybd (n+1);simp[nT,Tm.size,Tm.sizes];omega
 ·intro n g s t a b hs ht h1 h2 hn _ ha hb;have:=Ye6 n hn;have:=ha.2 h1;have:=hb.2 h2;rw[Za7];simp[nT,Tm.size,Tm.sizes];omega
 ·intro n g s t a hs ht h1 h2 hn _ ha;have:=Ye6 n hn;have:=ha.2 h2;rw[vu];simp[lmT,Tm.size,Tm.sizes];omega
 ·intro n g _;have:=Ybd (n+1);simp[nT,Tm.size,Tm.sizes];omega
def c1:Nat->Nat
 |0=>1|1=>1|2=>1|n+3=>3*c1 (n+2)
def c3:Nat->Nat
 |0=>1|1=>1|2=>2|n+3=>2*c3 (n+2)+c1 (n+2)
theorem Zzg:∀n,1<=c1 n
 |0=>by decide
 |1=>by decide
 |2=>by decide
 |n+3=>by have:=Zzg (n+2);simp only[c1];omega
theorem Zvx:∀n,c1 n<=c3 n
 |0=>by decide
 |1=>by decide
 |2=>by decide
 |n+3=>by have:=Zvx (n+2);simp only[c1,c3];omega
theorem Zdv(n:Nat)(hn:2<=n):3*c1 n<=c1 (n+1)/\2*c3 n+c1 n<=c3 (n+1):=by
 match n,hn with
 |n+2,_=>exact⟨Nat.le_refl _,Nat.le_refl _⟩
theorem Yjl(n:Nat)(hn:1<=n):2*c1 n<=c3 (n+1):=by
 match n,hn with
 |1,_=>decide
 |n+2,_=>have:=Zdv (n+2) (by omega);have:=Zvx (n+2);omega
theorem Zii(at_ b k i:Int)(h:Ty)(xs:List Tm)(hk:k≠1):cnt at_ ((Tm.mk k i h xs).vars b)=(xs.map fun x=>cnt at_ (x.vars (up k b))).sum:=by
 rw[Tm.vars_eq];simp only[Tm.kind_mk,Tm.args_mk,hk,if_false,List.nil_append];induction xs with
 |nil=>rfl
 |cons x l ih=>simp only[List.flatMap_cons,w8,List.map_cons,List.sum_cons,ih]
theorem Yk6{k b:Int}(h:k≠2):up k b=b:=if_neg h
theorem Zb9(at_ b k:Int)(xs:List Tm)(hk:k≠1)(h2:k≠2):cnt at_ ((nT k xs).vars b)=(xs.map fun x=>cnt at_ (x.vars b)).sum:=by
 have:=Zii at_ b k 0 (.mk 0 []) xs hk;rw[Yk6 h2] at this;exact this
theorem Znz(at_ b k:Int)(s:Ty)(xs:List Tm)(hk:k≠1)(h2:k≠2):cnt at_ ((hT k s xs).vars b)=(xs.map fun x=>cnt at_ (x.vars b)).sum:=by
 have:=Zii at_ b k 0 s xs hk;rw[Yk6 h2] at this;exact this
theorem Zdl(at_ b:Int)(s:Ty)(x:Tm):cnt at_ ((lmT s x).vars b)=cnt at_ (x.vars (b+1)):=by
 have:=Zii at_ b 2 0 s [x] (by omega);refine this.trans ?_
 rfl
theorem Zfd(at_ b:Int)(f x:Tm):cnt at_ ((apT f x).vars b)=cnt at_ (f.vars b)+cnt at_ (x.vars b):=by
 have:=Zb9 at_ b 3 [f,x] (by omega) (by omega);refine this.trans ?_;simp
theorem Zon(at_ b i:Int):cnt at_ ((vT i).vars b)=if i-b=at_ then 1 else 0:=by
 rw[Tm.vars_eq];simp only[vT,Tm.kind_mk,Tm.index_mk,Tm.args_mk,if_true,List.flatMap_nil,List.append_nil];exact Zax at_ (i,b)
theorem Zrc(at_ b:Int):∀m,cnt at_ ((Zb1 m).vars b)=0
 |0=>(Zb9 at_ b 4 [] (by omega) (by omega)).trans (by simp)
 |m+1=>(Zb9 at_ b 5 [Zb1 m] (by omega) (by omega)).trans (by simp[Zrc at_ b m])
theorem Ydb(at_ b:Int)(hb:0<=b)(ha:0<=at_):cnt at_ (plusT.vars b)=0:=by
 have e1:plusT=lmT natT (lmT natT (hT 6 natT [vT 1,lmT natT (lmT natT (nT 5 [vT 0])),vT 0])):=rfl;rw[e1,Zdl,Zdl,Znz at_ _ 6 _ _ (by omega) (by omega)];simp only[List.map_cons,List.map_nil,List.sum_cons,List.sum_nil,Zdl,Zon,Zb9 at_ _ 5 _ (by omega) (by omega)]
 grind
theorem Ya1(at_ b:Int)(hb:0<=b)(ha:0<=at_):cnt at_ (predT.vars b)=0:=by
 have e1:predT=lmT natT (hT 6 natT [nT 4 [],lmT natT (lmT natT (vT 1)),vT 0]):=rfl;rw[e1,Zdl,Znz at_ _ 6 _ _ (by omega) (by omega)];simp only[List.map_cons,List.map_nil,List.sum_cons,List.sum_nil,Zdl,Zon,Zb9 at_ _ 4 _ (by omega) (by omega)]
 grind
theorem Yh6(at_ b:Int)(hb:0<=b)(ha:0<=at_):cnt at_ (subT.vars b)=0:=by
 have e1:subT=lmT natT (lmT natT (hT 6 natT [vT 1,lmT natT (lmT natT (apT predT (vT 0))),vT 0])):=rfl;rw[e1,Zdl,Zdl,Znz at_ _ 6 _ _ (by omega) (by omega)];simp only[List.map_cons,List.map_nil,List.sum_cons,List.sum_nil,Zdl,Zon,Zfd];rw[Ya1 at_ _ (by omega) ha]
 grind
theorem Mk.cnt{n:Nat}{g:List Ty}{t:Ty}{x:Tm}(h:Mk n g t x)(hg:smalls g)(ht:t.small){at_:Int}(hat:0<=at_):∀b:Int,0<=b->cnt at_ (x.vars b)<=c3 n/\(t.size=1->cnt at_ (x.vars b)<=c1 n):=by
 have e1:natT.size=1:=rfl;have e2:listT.size=1:=rfl;refine Mk.ind (P:=fun n g t x=>∀b:Int,0<=b->Go.Ab.cnt at_ (x.vars b)<=c3 n/\(t.size=1->Go.Ab.cnt at_ (x.vars b)<=c1 n)) ?_ ?_ ?_ ?_ ?_ ?_ ?_ ?_ ?_ ?_ ?_ ?_ ?_ ?_ ?_ ?_ h hg ht
 ·intro n g t i hi h _ _ b hb;have:=Zzg (n+1);have:=Zvx (n+1);rw[Zon];grind
 ·intro n g t s a b hn hs h1 _ ht iha ihb z hz;have:=Zdv n hn;have:=iha (z+1) (by omega);have hb:=ihb z hz;have:=hb.2 h1;have:=Zvx n;rw[Zfd,Zdl];omega
 ·intro n g t s a b hn hs h1 _ ht iha ihb z hz;have:=Zdv n hn;have ha:=iha z hz;have hb:=ihb z hz;have:=hb.2 h1;have:=Zvx n;rw[Zb9 _ _ _ _ (by omega) (by omega)];simp only[List.map_cons,List.map_nil,List.sum_cons,List.sum_nil];rw[Zb9 _ _ _ _ (by omega) (by omega)];grind
 ·intro n g t s a b hn hs h1 _ ht iha ihb z hz;have:=Zdv n hn;have ha:=iha z hz;have hb:=ihb z hz;have:=ha.2 h1;have:=Zvx n;rw[Zb9 _ _ _ _ (by omega) (by omega)];simp only[List.map_cons,List.map_nil,List.sum_cons,List.sum_nil];rw[Zb9 _ _ _ _ (by omega) (by omega)];grind
 ·intro n g t a b m hn hm _ ht iha ihb z hz;have:=Zdv n hn;have ha:=iha (z+1+1) (by omega);have hb:=ihb z hz;have:=Zvx n;rw[Znz _ _ _ _ _ (by omega) (by omega)];simp only[List.map_cons,List.map_nil,List.sum_cons,List.sum_nil,Zdl,Zrc];omega
 ·intro n g t a b c hn _ ht iha ihb ihc z hz;have:=Zdv n hn;have ha:=iha (z+1+1+1) (by omega);have hb:=ihb z hz;have hc:=ihc z hz;have:=hc.2 e2;have:=Zvx n;rw[Znz _ _ _ _ _ (by omega) (by omega)];simp only[List.map_cons,List.map_nil,List.sum_cons,List.sum_nil,Zdl];omega
 ·intro n g t s a i hn hi h _ h1 _ _ iha z hz;have:=Zdv n hn;have ha:=iha z hz;have:=ha.2 h1;have:=Zvx n;have:=Zzg n;rw[Zfd,Zon];grind
 ·intro n g a hn _ iha z hz;have:=Zdv n hn;have ha:=iha z hz;have:=ha.2 e1;have:=Zvx n;have:Go.Ab.cnt at_ ((sT a).vars z)=Go.Ab.cnt at_ (a.vars z):=(Zb9 at_ z 5 [a] (by omega) (by omega)).trans (by simp);omega
 ·intro n g a b hn _ iha ihb z hz;have:=Zdv n hn;have ha:=iha z hz;have hb:=ihb z hz;have:=ha.2 e1;have:=hb.2 e1;have:=Zvx n;rw[Zfd,Zfd,Ydb at_ z hz hat];omega
 ·intro n g a b hn _ iha ihb z hz;have:=Zdv n hn;have ha:=iha z hz;have hb:=ihb z hz;have:=ha.2 e1;have:=hb.2 e1;have:=Zvx n;rw[Zfd,Zfd,Yh6 at_ z hz hat];omega
 ·intro n g m hm _ z hz;rw[Zrc];omega
 ·intro n g a b hn _ iha ihb z hz;have:=Zdv n hn;have ha:=iha z hz;have hb:=ihb z hz;have:=ha.2 e1;have:=hb.2 e2;have:=Zvx n;rw[Zb9 _ _ _ _ (by omega) (by omega)];grind
 ·intro n g _ z hz;rw[Zb9 _ _ _ _ (by omega) (by omega)];simp
 ·intro n g s t a b hs ht h1 h2 hn _ iha ihb z hz;have:=Yjl n hn;have ha:=(iha z hz).2 h1;have hb:=(ihb z hz).2 h2;rw[Za7,Zb9 _ _ _ _ (by omega) (by omega)];grind
 ·intro n g s t a hs ht h1 h2 hn _ iha z hz;have:=Yjl n hn;have ha:=(iha (z+1) (by omega)).2 h2;rw[vu,Zdl];omega
 ·intro n g _ z hz;rw[Zb9 _ _ _ _ (by omega) (by omega)];simp
theorem Zch(t:Tm):∀(g:List Ty) (b:Int) (B:Int),(t.inf g).2=0->t.shape=true->(g.length:Int)+t.size<=B->∀p∈t.vars b,p.1<B:=by
 induction t using Tm.ind with
 |h t ih=>
  intro g b B h hs hB p hp;rw[Tm.inf_eq] at h;have hsz:=t.size_eq;rw[t.vars_eq,List.mem_append] at hp;by_cases h1:t.kind=1
  ·have hargs:t.args=[]:=by
    have:=Ze2 hs;rw[h1] at this;exact List.eq_nil_of_length_eq_zero (Option.some.inj this).symm
   grind
  ·rw[if_neg h1] at h hp;simp only[List.not_mem_nil,false_or] at hp;obtain⟨x,hx,hp⟩:=List.mem_flatMap.1 hp;have hxs:=zc Tm.size hx;by_cases h2:t.kind=2
   ·rw[if_pos h2] at h;by_cases h3:(Tm.infs (g++[t.ty]) t.args).2=0
    ·exact ih x hx (g++[t.ty]) _ B (Tm.infs_all _ _ h3 x hx) (zd hs x hx) (by grind) p hp
    grind
   ·rw[if_neg h2] at h;by_cases h3:(Tm.infs g t.args).2=0
    ·exact ih x hx g _ B (Tm.infs_all _ _ h3 x hx) (zd hs x hx) (by omega) p hp
    grind
theorem Zas{g:Int->Int->Tm}{b:Int}{t:Tm}(h:t.kind=1):t.re g b=g t.index b:=by rw[Tm.re_eq,if_pos h]
theorem wq{g:Int->Int->Tm}{b:Int}{t:Tm}(h:t.kind≠1):t.re g b= .mk t.kind t.index t.ty (t.args.map (Tm.re g (up t.kind b))):=by rw[Tm.re_eq,if_neg h]
theorem Zbc{t:Tm}(hs:t.shape=true)(h:t.kind=1):t.args=[]:=by
 have:=Ze2 hs;rw[h] at this;exact List.eq_nil_of_length_eq_zero (Option.some.inj this).symm
theorem Zaj{t:Tm}(hs:t.shape=true)(h:t.kind=1)(b:Int):t.vars b=[(t.index,b)]:=by rw[t.vars_eq,if_pos h,Zbc hs h];rfl
theorem Zbo{t:Tm}(h:t.kind≠1)(b:Int):t.vars b=t.args.flatMap (Tm.vars (up t.kind b)):=by rw[t.vars_eq,if_neg h];rfl
theorem Zgc{t:Tm}(h:t.kind≠1){b:Int}{x:Tm}(hx:x∈t.args){p:Int×Int}(hp:p∈x.vars (up t.kind b)):p∈t.vars b:=by
 rw[Zbo h];grind
theorem Znb(g:Int->Int->Tm)(t:Tm):∀b,t.shape=true->(∀p∈t.vars b,(g p.1 p.2).shape=true)->(t.re g b).shape=true:=by
 induction t using Tm.ind with
 |h t ih=>
  intro b hs hg;by_cases h1:t.kind=1
  ·rw[Zas h1];exact hg (t.index,b) (by rw[Zaj hs h1];simp)
  ·rw[wq h1];have hs0:=hs;rw[Tm.shape_eq,Bool.and_eq_true] at hs ⊢;refine⟨?_,?_⟩
   ·have:=hs.1;simp only[Tm.head,Tm.kind_mk,Tm.args_mk,Tm.index_mk,Tm.ty_mk,List.length_map] at this ⊢
    grind
   ·simp only[Tm.args_mk];refine List.all_eq_true.2 fun y hy=> ?_;obtain⟨x,hx,rfl⟩:=List.mem_map.1 hy;exact ih x hx _ (List.all_eq_true.1 hs.2 x hx) fun p hp=>hg p (Zgc h1 hx hp)
theorem x6{fr by_:Int}{t:Tm}(b:Int)(hs:t.shape=true)(hb:0<=by_):(t.re (zk fr by_) b).shape=true:=
 Znb _ t b hs fun p hp=>by
  have:=t.vars_nonneg hs b p hp;simp only[zk];exact Zgb _ (by omega)
theorem Zbk(fr by_:Int)(t:Tm):∀b,t.shape=true->(t.re (zk fr by_) b).size=t.size:=by
 induction t using Tm.ind with
 |h t ih=>
  intro b hs;by_cases h1:t.kind=1
  ·rw[Zas h1,t.size_eq,Zbc hs h1];rfl
  ·rw[wq h1,t.size_eq,Tm.size_eq];simp only[Tm.args_mk,List.map_map];congr 2;exact List.map_congr_left fun x hx=>ih x hx _ (zd hs x hx)
theorem Zgs{at_:Int}{s t:Tm}(b:Int)(hs:s.shape=true)(ht:t.shape=true)(hb:0<=b)(ha:0<=at_)(hv:∀p∈t.vars b,0<=p.2):(t.re (xy at_ s) b).shape=true:=
 Znb _ t b ht fun p hp=>by
  have:=t.vars_nonneg ht b p hp;have:=hv p hp;simp only[xy];split
  ·exact x6 0 hs (by omega)
  ·exact Zgb _ (by omega)
theorem wv(t:Tm):∀b:Int,∀p∈t.vars b,b<=p.2:=by
 induction t using Tm.ind with
 |h t ih=>
  intro b p hp;rw[t.vars_eq,List.mem_append] at hp;rcases hp with hp|hp
  ·grind
  ·obtain ⟨x,hx,hp⟩:=List.mem_flatMap.1 hp;have:=ih x hx _ p hp;have:b<=up t.kind b:=by simp only[up];omega
   omega
theorem Zid(at_:Int)(s t:Tm)(hs:s.shape=true):∀b,t.shape=true->(t.re (xy at_ s) b).size=t.size+cnt at_ (t.vars b)*(s.size-1):=by
 have hp:=s.size_pos;induction t using Tm.ind with
 |h t ih=>
  intro b ht;by_cases h1:t.kind=1
  ·rw[Zas h1,Zaj ht h1,Zax,t.size_eq,Zbc ht h1];simp only[xy];split
   ·rw[Zbk _ _ _ _ hs];grind
   ·simp[Tm.size,Tm.sizes]
  ·rw[wq h1,t.size_eq,Tm.size_eq,Zbo h1];simp only[Tm.args_mk,List.map_map];have:∀l:List Tm,(∀x∈l,x∈t.args)->(l.map (Tm.size∘Tm.re (xy at_ s) (up t.kind b))).sum=(l.map Tm.size).sum+cnt at_ (l.flatMap (Tm.vars (up t.kind b)))*(s.size-1):=by
    intro l;induction l with
    |nil=>intro _;simp[cnt]
    |cons x l ihl=>
     intro hl;have h2:=ih x (hl x (by simp)) (up t.kind b) (zd ht x (hl x (by simp)));have h3:=ihl fun y hy=>hl y (by grind);simp only[List.map_cons,List.sum_cons,List.flatMap_cons,w8,Function.comp_apply,h2,h3,Nat.add_mul];omega
   grind
theorem Yb3{g h:List Ty}{i:Nat}(hi:i<g.length):at0 (g++h) i=at0 g i:=by
 simp only[at0,List.getD_eq_getElem?_getD,List.getElem?_append_left hi]
theorem Zxx{g h:List Ty}{i:Nat}(hi:g.length<=i):at0 (g++h) i=at0 h (i-g.length):=by
 simp only[at0,List.getD_eq_getElem?_getD,List.getElem?_append_right hi]
theorem w9{g h:List Ty}{i:Nat}(hi:i<h.length):Zni (g++h) i=Zni h i:=by
 simp only[Zni,List.length_append];rw[Zxx (by omega)]
 grind
theorem Zbi{g h:List Ty}{i:Nat}(hi:h.length<=i)(hl:i<(g++h).length):Zni (g++h) i=Zni g (i-h.length):=by
 simp only[Zni,List.length_append] at hl ⊢;rw[Yb3 (by omega)]
 grind
theorem vr(g:List Ty)(i:Int)(h0:0<=i):(vT i).inf g=if i>=(g.length:Int) then(noTy,6) else(Zni g i.toNat,0):=by
 rfl
theorem Zkl{t:Tm}(hs:t.shape=true)(h:t.kind=1):t=vT t.index:=by
 refine(Tm.eq_iff _ _).2 ⟨h,rfl,?_,Zbc hs h⟩;rw[Tm.shape_eq,Bool.and_eq_true] at hs;have h1:=hs.1;simp only[Tm.head,Bool.and_eq_true,h] at h1;have h2:=h1.2;have:we 1=false:=rfl;rw[this,cond_false] at h2;simp only[Ty.isNo,Bool.and_eq_true,beq_iff_eq] at h2;exact(Ty.eq_iff _ _).2 ⟨h2.1,List.eq_nil_of_length_eq_zero h2.2⟩
theorem Zko{f:Tm->Tm}{g g':List Ty}:∀(l:List Tm),(∀x∈l,(f x).inf g'=x.inf g)->Tm.infs g' (l.map f)=Tm.infs g l:=by
 intro l;induction l with
 |nil=>intro _;rfl
 |cons x l ih=>
  intro h;simp only[List.map_cons,Tm.infs,h x (by simp),ih fun y hy=>h y (by grind)]
theorem Yfa(G:Int->Int->Tm)(t:Tm):∀(g g' h:List Ty) (b:Int),t.shape=true->
 (∀(i:Int) (h':List Ty) (b':Int),0<=i->(b'-b=h'.length-h.length)->h.length<=h'.length->(∃e,h'=h++e)->(G i b').inf (g'++h')=(vT i).inf (g++h'))->
 (t.re G b).inf (g'++h)=t.inf (g++h):=by
 induction t using Tm.ind with
 |h t ih=>
  intro g g' h b hs hG;by_cases h1:t.kind=1
  ·rw[Zas h1];have:=hG t.index h b (Zc6 hs).1 (by omega) (by omega) ⟨[],by simp⟩;rw[this,<-Zkl hs h1]
  ·rw[wq h1,Tm.inf_eq,Tm.inf_eq (t:=t)];simp only[Tm.kind_mk,Tm.ty_mk,Tm.args_mk,h1,if_false];by_cases h2:t.kind=2
   ·have e:up t.kind b=b+1:=if_pos h2;have:Tm.infs (g'++h++[t.ty]) (t.args.map (Tm.re G (up t.kind b)))=Tm.infs (g++h++[t.ty]) t.args:=by
     refine Zko t.args fun x hx=> ?_;rw[List.append_assoc,List.append_assoc];refine ih x hx g g' (h++[t.ty]) _ (zd hs x hx) fun i h' b' hi hb hl he=>hG i h' b' hi ?_ ?_ ?_;all_goals grind
    grind
   ·have e:up t.kind b=b:=if_neg h2;have:Tm.infs (g'++h) (t.args.map (Tm.re G (up t.kind b)))=Tm.infs (g++h) t.args:=Zko t.args fun x hx=>ih x hx g g' h _ (zd hs x hx) (by grind)
    grind
theorem Zms(t:Tm)(g m h:List Ty)(fr b:Int)(hs:t.shape=true)(hh:(h.length:Int)=fr+b):(t.re (zk fr m.length) b).inf (g++m++h)=t.inf (g++h):=by
 refine Yfa _ t g (g++m) h b hs fun i h' b' hi hb hl _=> ?_;have hlen:(h'.length:Int)=fr+b':=by omega
 show(vT (if i-b'>=fr then i+m.length else i)).inf _=_;by_cases hc:i-b'>=fr
 ·rw[if_pos hc,vr _ _ (by omega),vr _ _ hi];simp only[List.length_append];by_cases hr:i>=((g.length+h'.length:Nat):Int)
  ·grind
  ·rw[if_neg (by omega),if_neg hr];have e1:(i+(m.length:Int)).toNat=i.toNat+m.length:=by omega
   rw[Zbi (by omega) (by grind),Zbi (by omega) (by grind),Zbi (by omega) (by grind)]
   grind
 ·rw[if_neg hc,vr _ _ hi,vr _ _ hi];simp only[List.length_append];rw[if_neg (by omega),if_neg (by omega),w9 (by omega),w9 (by omega)]
theorem Zqy(t s:Tm)(g h:List Ty)(σ:Ty)(at_ b:Int)(ht:t.shape=true)(hs:s.shape=true)(hh:(h.length:Int)=at_+b)(hσ:s.inf g=(σ,0)):(t.re (xy at_ s) b).inf (g++h)=t.inf (g++[σ]++h):=by
 refine Yfa _ t (g++[σ]) g h b ht fun i h' b' hi hb hl _=> ?_;have hlen:(h'.length:Int)=at_+b':=by omega
 simp only[xy];by_cases hc:i-b'=at_
 ·rw[if_pos hc];have e:=Zms s g h' [] 0 0 hs rfl;simp only[List.append_nil] at e;rw[<-hlen,e,hσ,vr _ _ hi];simp only[List.length_append,List.length_cons,List.length_nil];rw[if_neg (by omega),Zbi (by omega) (by grind)];rw[show i.toNat-h'.length=0 by omega,Zjc]
 ·rw[if_neg hc];by_cases hg:i-b'>at_
  ·rw[if_pos hg];show(vT (i-1)).inf _=_;rw[vr _ _ (by omega),vr _ _ hi];simp only[List.length_append,List.length_cons,List.length_nil];by_cases hr:i>=((g.length+(0+1)+h'.length:Nat):Int)
   ·grind
   ·rw[if_neg (by omega),if_neg hr,Zbi (by omega) (by grind),Zbi (by omega) (by grind)];obtain⟨k,hk⟩:∃k,i.toNat-h'.length=k+1:=⟨i.toNat-h'.length-1,by omega⟩;rw[hk,Zpm g σ k (by omega)]
    grind
  ·rw[if_neg hg];show(vT i).inf _=_;rw[vr _ _ hi,vr _ _ hi];simp only[List.length_append,List.length_cons,List.length_nil];rw[if_neg (by omega),if_neg (by omega),w9 (by omega),w9 (by omega)]
theorem Zi0{t:Tm}{g:List Ty}(h:(t.inf g).2=0)(hs:t.shape=true)(hb:g.length+t.size<=536870912):t.near=true:=
 List.all_eq_true.2 fun p hp=>by
  have:=Zch t g 0 536870912 h hs (by omega) p hp
  grind
theorem Tm.err_iff(t:Tm):t.err=0↔t.shape=true/\t.size<=4096:=by
 simp only[Tm.err]
 grind
theorem Zbn(fr by_:Int)(t:Tm):∀b,t.shape=true->(t.re (zk fr by_) b).full=t.full:=by
 induction t using Tm.ind with
 |h t ih=>
  intro b hs;by_cases h1:t.kind=1
  ·rw[Zas h1]
   conv=>rhs;rw[Zkl hs h1]
   rfl
  ·rw[wq h1,t.full_eq,Tm.full_eq];simp only[Tm.args_mk,Tm.ty_mk,List.map_map];congr 2;exact List.map_congr_left fun x hx=>ih x hx _ (zd hs x hx)
theorem Ybh(at_:Int)(s t:Tm)(hs:s.shape=true):∀b,t.shape=true->(t.re (xy at_ s) b).full<=t.full+cnt at_ (t.vars b)*s.full:=by
 induction t using Tm.ind with
 |h t ih=>
  intro b ht;by_cases h1:t.kind=1
  ·rw[Zas h1,Zaj ht h1,Zax];have e:t.full=2:=by rw[Zkl ht h1];rfl
   simp only[xy];split
   ·rw[Zbn _ _ _ _ hs];omega
   ·rw[e];simp[Tm.full,Tm.fulls,Ty.size,Ty.sizes]
  ·rw[wq h1,t.full_eq,Tm.full_eq,Zbo h1];simp only[Tm.args_mk,Tm.ty_mk,List.map_map];have:∀l:List Tm,(∀x∈l,x∈t.args)->(l.map (Tm.full∘Tm.re (xy at_ s) (up t.kind b))).sum<=(l.map Tm.full).sum+cnt at_ (l.flatMap (Tm.vars (up t.kind b)))*s.full:=by
    intro l;induction l with
    |nil=>simp
    |cons x l ihl=>
     intro hl;have h2:=ih x (hl x (by simp)) (up t.kind b) (zd ht x (hl x (by simp)));have h3:=ihl fun y hy=>hl y (by grind);simp only[List.map_cons,List.sum_cons,List.flatMap_cons,w8,Function.comp_apply,Nat.add_mul];omega
   grind
theorem Dk.type1(d:Dk):(d.type 1).1.small:=by
 have e:=Dk.type_eq 1 d;rw[show(1:Int).toNat=1 from rfl,show((1:Int)-1).toNat=0 from rfl] at e;have h1:=Dk.type0 (d.next 7).2;have h2:=Dk.type0 ((d.next 7).2.type 0).2;rw[e];generalize ((d.next 7).2.type 0).1=a at*;generalize (((d.next 7).2.type 0).2.type 0).1=b at*;split
 ·split
  ·exact ⟨Zij h1.1 h2.1,show(Zdm a b).size<=3 by rw[Za7];omega⟩
  ·exact ⟨Zbp h1.1 h2.1,show(xj a b).size<=3 by rw[vu];omega⟩
 ·split
  ·exact ⟨rfl,show(Ty.mk 2 []).size<=3 by decide⟩
  ·split
   ·exact ⟨rfl,show(Ty.mk 5 []).size<=3 by decide⟩
   ·exact ⟨rfl,show(Ty.mk 1 []).size<=3 by decide⟩
theorem Dk.types_smalls:∀(n:Nat) (d:Dk),smalls (d.types n).1
 |0,d=>zi
 |n+1,d=>ze (Dk.type1 d) (Dk.types_smalls n _)
theorem Dk.ctx_smalls(d:Dk):smalls d.ctx.1:=Dk.types_smalls _ _
theorem Dk.ctx_len(d:Dk):d.ctx.1.length<=3:=by
 have:=Dk.next_bd d 4 (by omega);simp only[Dk.ctx,Dk.types_len];omega
theorem Dk.ctx_ok{d:Dk}(h:d.ok):d.ctx.2.ok:=Dk.types_ok _ _ (Dk.next_ok h 4)
def Zc1(g:List Ty)(t:Tm):Ty×Int:=if t.err≠0 then(noTy,t.err) else t.inf g
def xq(g:List Ty)(t:Tm):Ty×Int:=if wd g≠0 then(noTy,wd g) else Zc1 g t
theorem Zxz{g:List Ty}(h:smalls g)(hl:g.length<=16):wd g=0:=by
 unfold wd;rw[if_neg (by omega)];exact Zgg g fun j hj _=>ud (h _ (List.getElem_mem hj))
theorem Zhv:∀{g:List Ty},u4 g=0->∀x∈g,x.err=0
 |[],_,x,hx=>by cases hx
 |t::l,h,x,hx=>by
  simp only[u4] at h;by_cases h1:t.err=0
  ·simp only[h1,ne_eq,not_true_eq_false,if_false] at h;rcases List.mem_cons.1 hx with rfl|hx
   ·exact h1
   ·exact Zhv h x hx
  omega
theorem Zaa{g:List Ty}(h:wd g=0):g.length<=16/\∀x∈g,x.err=0:=by
 unfold wd at h;by_cases h1:g.length>16
 ·omega
 ·rw[if_neg h1] at h;exact⟨by omega,Zhv h⟩
theorem Mk.err{n:Nat}{g:List Ty}{t:Ty}{x:Tm}(h:Mk n g t x)(hg:smalls g)(ht:t.small)(hn:n<=5):x.err=0:=by
 refine(Tm.err_iff x).2 ⟨h.shape hg ht,?_⟩;have:=(h.size hg ht).1;have:s3 n<=232:=by
  match n,hn with
  |0,_=>decide
  |1,_=>decide
  |2,_=>decide
  |3,_=>decide
  |4,_=>decide
  |5,_=>decide
 omega
theorem Mk.small_size{n:Nat}{g:List Ty}{t:Ty}{x:Tm}(h:Mk n g t x)(hg:smalls g)(ht:t.small)(hn:n<=5):x.size<=232:=by
 have:=(h.size hg ht).1;have:s3 n<=232:=by
  match n,hn with
  |0,_=>decide
  |1,_=>decide
  |2,_=>decide
  |3,_=>decide
  |4,_=>decide
  |5,_=>decide
 omega
theorem Mk.near{n:Nat}{g:List Ty}{t:Ty}{x:Tm}(h:Mk n g t x)(hg:smalls g)(ht:t.small)(hn:n<=5)(hl:g.length<=100000):x.near=true:=
 Zi0 (by rw[h.inf hg ht]) (h.shape hg ht) (by have:=h.small_size hg ht hn;omega)
theorem Mk.weak{n:Nat}{g:List Ty}{t:Ty}{x:Tm}(m:List Ty)(h:Mk n g t x):Mk n (m++g) t x:=by
 induction h with
 |var n g t i hi h=>exact .var n _ t i (by grind) ((w9 hi).trans h)
 |app n g t s a b hn hs h1 _ _ iha ihb=>exact .app n _ t s a b hn hs h1 (by grind) ihb
 |fst n g t s a b hn hs h1 _ _ iha ihb=>exact .fst n _ t s a b hn hs h1 iha ihb
 |snd n g t s a b hn hs h1 _ _ iha ihb=>exact .snd n _ t s a b hn hs h1 iha ihb
 |recu n g t a b m' hn hm _ _ iha ihb=>exact .recu n _ t a b m' hn hm (by grind) ihb
 |fold n g t a b c hn _ _ _ iha ihb ihc=>exact .fold n _ t a b c hn (by grind) ihb ihc
 |ctx n g t s a hn i hi h h1 _ iha=>exact .ctx n _ t s a hn i (by grind) ((w9 hi).trans h) h1 iha
 |succ n g a hn _ iha=>exact .succ n _ a hn iha
 |plus n g a b hn _ _ iha ihb=>exact .plus n _ a b hn iha ihb
 |sub n g a b hn _ _ iha ihb=>exact .sub n _ a b hn iha ihb
 |num n g m' hm=>exact .num n _ m' hm
 |cons n g a b hn _ _ iha ihb=>exact .cons n _ a b hn iha ihb
 |nil n g=>exact .nil n _
 |pair n g s t a b h1 h2 _ _ iha ihb=>exact .pair n _ s t a b h1 h2 iha ihb
 |lam n g s t a h1 h2 _ iha=>exact .lam n _ s t a h1 h2 (by grind)
 |unit n g=>exact .unit n _
theorem Yba{t:Ty}(h:t.small):t.ok=true:=Zuz h.1 (by have:=h.2;omega)
mutual
def dfl:Ty->Tm
 | .mk k l=>if k=2 then nT 7 [] else if k=5 then nT 13 [] else if k=3 then nT 10 (Ylw l) else if k=4 then lmT (at0 l 0) ((Ylw l).getD 1 noTm) else nT 4 []
def Ylw:List Ty->List Tm
 |[]=>[]
 |t::l=>dfl t::Ylw l
end
theorem Yh8(a b:Ty):dfl (Zdm a b)=nT 10 [dfl a,dfl b]:=by rfl
theorem Yh4(a b:Ty):dfl (xj a b)=lmT a (dfl b):=by rfl
theorem Zyr(t:Ty):t.shape=true->t.size<=64->(∀g,(dfl t).inf g=(t,0))/\(dfl t).shape=true/\(dfl t).size<=t.size/\(dfl t).full<=66*t.size:=by
 induction t using Ty.ind with
 |h t ih=>
  intro hs h64;rcases Zjl hs with rfl|rfl|rfl|⟨a,b,ha,hb,rfl|rfl⟩
  ·exact ⟨fun g=>Zln g,by decide,by decide,by decide⟩
  ·exact ⟨fun g=>by rfl,by decide,by decide,by decide⟩
  ·exact ⟨fun g=>by rfl,by decide,by decide,by decide⟩
  ·rw[Za7] at h64 ⊢;rw[Yh8];obtain⟨a1,a2,a3,a4⟩:=ih a (by simp) ha (by omega);obtain⟨b1,b2,b3,b4⟩:=ih b (by simp) hb (by omega);refine⟨fun g=>Zih (a1 g) (b1 g) ((Ty.err_iff _).2 ⟨Zij ha hb,by rw[Za7];omega⟩),vk rfl rfl a2 b2,?_,?_⟩
   ·simp only[nT,Tm.size,Tm.sizes];omega
   ·simp only[nT,Tm.full,Tm.fulls,Ty.size,Ty.sizes];omega
  ·rw[vu] at h64 ⊢;rw[Yh4];obtain⟨b1,b2,b3,b4⟩:=ih b (by simp) hb (by omega);have hp:=a.size_pos;refine⟨fun g=>ww (b1 _) ((Ty.err_iff _).2 ⟨Zbp ha hb,by rw[vu];omega⟩),Zb4 (Zuz ha (by omega)) b2,?_,?_⟩
   ·simp only[lmT,Tm.size,Tm.sizes];omega
   ·simp only[lmT,Tm.full,Tm.fulls];omega
@[simp] theorem Fm.kind_mk(k:Int)(h:Ty)(ts:List Tm)(as:List Fm):(Fm.mk k h ts as).kind=k:=rfl
@[simp] theorem Fm.ty_mk(k:Int)(h:Ty)(ts:List Tm)(as:List Fm):(Fm.mk k h ts as).ty=h:=rfl
@[simp] theorem Fm.terms_mk(k:Int)(h:Ty)(ts:List Tm)(as:List Fm):(Fm.mk k h ts as).terms=ts:=rfl
@[simp] theorem Fm.args_mk(k:Int)(h:Ty)(ts:List Tm)(as:List Fm):(Fm.mk k h ts as).args=as:=rfl
def x9(k:Int):Bool:=decide (4<=k)&&decide (k<=7)
def Fm.head(f:Fm):Bool:=
 if f.kind=1 then f.ty.isNo&&f.terms.length==2&&f.args.length==0
 else if f.kind=2\/f.kind=3 then f.ty.isNo&&f.terms.length==0&&f.args.length==2
 else if f.kind=4\/f.kind=5\/f.kind=6\/f.kind=7 then f.ty.ok&&f.terms.length==0&&f.args.length==1 else false
mutual
def Fm.shape:Fm->Bool
 | .mk k h ts as=>Fm.head (.mk k h ts as)&&ts.all Tm.shape&&Fm.shapes as
def Fm.shapes:List Fm->Bool
 |[]=>true
 |f::l=>f.shape&&Fm.shapes l
end
mutual
def Fm.size:Fm->Nat
 | .mk _ _ ts as=>1+(ts.map Tm.size).sum+Fm.sizes as
def Fm.sizes:List Fm->Nat
 |[]=>0
 |f::l=>f.size+Fm.sizes l
end
mutual
def Fm.full:Fm->Nat
 | .mk _ h ts as=>1+h.size+(ts.map Tm.full).sum+Fm.fulls as
def Fm.fulls:List Fm->Nat
 |[]=>0
 |f::l=>f.full+Fm.fulls l
end
theorem Fm.shapes_eq:∀l:List Fm,Fm.shapes l=l.all Fm.shape
 |[]=>rfl
 |f::l=>by rw[Fm.shapes,Fm.shapes_eq l];rfl
theorem Fm.sizes_eq:∀l:List Fm,Fm.sizes l=(l.map Fm.size).sum
 |[]=>rfl
 |f::l=>by rw[Fm.sizes,Fm.sizes_eq l];rfl
theorem Fm.fulls_eq:∀l:List Fm,Fm.fulls l=(l.map Fm.full).sum
 |[]=>rfl
 |f::l=>by rw[Fm.fulls,Fm.fulls_eq l];rfl
theorem Fm.shape_eq(f:Fm):f.shape=(f.head&&f.terms.all Tm.shape&&f.args.all Fm.shape):=by cases f;simp only[Fm.shape,Fm.shapes_eq];rfl
theorem Fm.size_eq(f:Fm):f.size=1+(f.terms.map Tm.size).sum+(f.args.map Fm.size).sum:=by cases f;simp only[Fm.size,Fm.sizes_eq];rfl
theorem Fm.full_eq(f:Fm):f.full=1+f.ty.size+(f.terms.map Tm.full).sum+(f.args.map Fm.full).sum:=by cases f;simp only[Fm.full,Fm.fulls_eq];rfl
theorem Fm.full_pos(f:Fm):1<=f.full:=by rw[Fm.full_eq];omega
theorem Fm.size_pos(f:Fm):1<=f.size:=by rw[Fm.size_eq];omega
theorem Fm.ind{P:Fm->Prop}(h:∀f,(∀x∈f.args,P x)->P f)(f:Fm):P f:=by
 have:∀n,∀f:Fm,f.full<=n->P f:=by
  intro n;induction n with
  |zero=>intro f h;have:=f.full_pos;omega
  |succ n ih=>
   intro f hf;refine h f fun x hx=>ih x ?_;have:=zc Fm.full hx;have:=f.full_eq;omega
 exact this _ f (Nat.le_refl _)
theorem Fm.size_le_full(f:Fm):f.size<=f.full:=by
 induction f using Fm.ind with
 |h f ih=>
  rw[f.size_eq,f.full_eq];have h1:=xv (f:=Fm.size) (g:=Fm.full) f.args ih;have h2:=xv (f:=Tm.size) (g:=Tm.full) f.terms fun x _=>x.size_le_full;omega
def Fm.nodes(f:Fm):Nat:=if f.shape then f.size else 0
def Fm.err(f:Fm):Int:=if f.shape=false then 2 else if f.size>4096 then 4 else 0
def Fm.num(f:Fm):Int:=if f.err=0 then f.size else 0
def noFm:Fm:= .mk 0 (.mk 0 []) [] []
def eqF(a b:Tm):Fm:= .mk 1 (.mk 0 []) [a,b] []
theorem Zbq{a b:Tm}(ha:a.shape=true)(hb:b.shape=true):(eqF a b).shape=true:=by
 rw[Fm.shape_eq];simp[eqF,Fm.head,ha,hb,Ty.isNo]
theorem Zc7(a b:Tm):(eqF a b).size=1+(a.size+b.size):=by rfl
theorem Fm.err_iff(f:Fm):f.err=0↔f.shape=true/\f.size<=4096:=by
 unfold Fm.err
 grind
def Tm.arg(t:Tm)(i:Nat):Tm:=t.args.getD i noTm
mutual
def y9(at_:Int):Tm->Nat
 | .mk k i h xs=>if k=1/\i=at_ then 1 else Zmf (up k at_) xs
def Zmf(at_:Int):List Tm->Nat
 |[]=>0
 |x::l=>y9 at_ x+Zmf at_ l
end
theorem Zk7(at_:Int):∀l:List Tm,Zmf at_ l=(l.map (y9 at_)).sum
 |[]=>rfl
 |x::l=>by rw[Zmf,Zk7 at_ l];rfl
theorem Zf3(at_:Int)(t:Tm):y9 at_ t=if t.kind=1/\t.index=at_ then 1 else(t.args.map (y9 (up t.kind at_))).sum:=by
 cases t;simp only[y9,Zk7,Tm.kind_mk,Tm.index_mk,Tm.args_mk];rfl
theorem Zdy(t:Tm):∀at_,y9 at_ t<=t.size:=by
 induction t using Tm.ind with
 |h t ih=>
  intro at_;rw[Zf3,t.size_eq];split
  ·omega
  ·have:=xv (f:=y9 (up t.kind at_)) (g:=Tm.size) t.args fun x hx=>ih x hx _;omega
theorem Zjb(t:Tm):∀at_ b:Int,t.shape=true->y9 (at_+b) t=cnt at_ (t.vars b):=by
 induction t using Tm.ind with
 |h t ih=>
  intro at_ b hs;rw[Zf3];by_cases h1:t.kind=1
  ·rw[Zaj hs h1,Zax,Zbc hs h1]
   grind
  ·rw[if_neg (fun hh=>h1 hh.1)];have hargs:=zd hs;obtain⟨k,i,th,xs⟩:=t;rw[Zii at_ b k i th xs h1];have e:up k (at_+b)=at_+up k b:=by unfold up;omega
   simp only[Tm.kind_mk,Tm.args_mk] at*;rw[e];congr 1;simp_all
def Zjf(t:Tm):Bool:=
 if t.kind=3 then(t.arg 0).kind==2&&((t.arg 1).args.length==0||decide (y9 0 ((t.arg 0).arg 0)<=1))
 else if t.kind=6 then(t.arg 2).kind==4
 else if t.kind=9 then(t.arg 2).kind==7
 else if t.kind=11\/t.kind=12 then(t.arg 0).kind==10 else false
def Zds(t:Tm):Tm:=
 if t.kind=3 then((t.arg 0).arg 0).re (xy 0 (t.arg 1)) 0
 else if t.kind=11 then(t.arg 0).arg 0 else if t.kind=12 then(t.arg 0).arg 1 else t.arg 0
mutual
def Zgh:Tm->Option Tm
 | .mk k i h xs=>if Zjf (.mk k i h xs)=true then some (Zds (.mk k i h xs)) else(Ziz xs).map (Tm.mk k i h)
def Ziz:List Tm->Option (List Tm)
 |[]=>none
 |x::l=>match Zgh x with
  |some u=>some (u::l)
  |none=>(Ziz l).map (x::·)
end
theorem Zt5(t:Tm):Zgh t=if Zjf t=true then some (Zds t) else(Ziz t.args).map (Tm.mk t.kind t.index t.ty):=by
 cases t;rfl
theorem Zjn:∀(xs ys:List Tm),Ziz xs=some ys->∃(i:Nat) (hi:i<xs.length) (u:Tm),Zgh xs[i]=some u/\ys=xs.set i u/\∀(j:Nat) (hj:j<xs.length),j<i->Zgh xs[j]=none
 |[],ys,h=>by simp[Ziz] at h
 |x::l,ys,h=>by
  simp only[Ziz] at h;cases hx:Zgh x with
  |some u=>
   rw[hx] at h;cases h;exact⟨0,by simp,u,hx,rfl,fun j _ hj=>by omega⟩
  |none=>
   rw[hx] at h;simp only[Option.map_eq_some_iff] at h;obtain⟨zs,h1,rfl⟩:=h;obtain⟨i,hi,u,h2,rfl,h3⟩:=Zjn l zs h1;refine⟨i+1,by grind,u,by grind,rfl,fun j hj hji=> ?_⟩
   grind
theorem u3{t:Tm}{g:List Ty}{T:Ty}(h1:t.kind≠1)(h2:t.kind≠2)(h:t.inf g=(T,0)):(∀x∈t.args,(x.inf g).2=0)/\Zaf t.kind t.ty (t.args.map fun x=>(x.inf g).1)=(T,0):=by
 rw[Tm.inf_eq,if_neg h1,if_neg h2] at h;by_cases h3:(Tm.infs g t.args).2=0
 ·rw[if_neg (by omega)] at h;have h4:=Tm.infs_all g t.args h3;refine⟨h4,?_⟩;rw[Tm.infs_ok g t.args h4] at h;exact h
 grind
theorem Zdh{i:Int}{th T:Ty}{b:Tm}{g:List Ty}(h:(Tm.mk 2 i th [b]).inf g=(T,0)):(b.inf (g++[th])).2=0/\T=xj th (b.inf (g++[th])).1:=by
 rw[Tm.inf_eq,if_neg (by simp),if_pos (by simp)] at h;simp only[Tm.args_mk,Tm.ty_mk] at h;by_cases h3:(b.inf (g++[th])).2=0
 ·refine ⟨h3,?_⟩;simp only[Tm.infs,h3,ne_eq,not_true_eq_false,if_false] at h;unfold okT at h;split at h;all_goals simp_all
 ·simp only[Tm.infs,h3,ne_eq,not_false_eq_true,if_true] at h
  grind
theorem Yft{a b T:Ty}(h:okT (Zdm a b)=(T,0)):T=Zdm a b:=by
 unfold okT at h
 grind
theorem Zmh{i:Int}{th T:Ty}{x y:Tm}{g:List Ty}(h:(Tm.mk 10 i th [x,y]).inf g=(T,0)):(x.inf g).2=0/\(y.inf g).2=0/\T=Zdm (x.inf g).1 (y.inf g).1:=by
 obtain⟨h1,h2⟩:=u3 (by simp) (by simp) h;exact⟨h1 x (by simp),h1 y (by simp),Yft (by simpa[Zaf,at0] using h2)⟩
theorem Zdq{t:Tm}(hs:t.shape=true){k:Int}(hk:t.kind=k)(ha:arK k=some 2):∃i th x y,t= .mk k i th [x,y]/\x.shape=true/\y.shape=true:=by
 have h:=Ze2 hs;have h2:=zd hs;obtain⟨k',i,th,xs⟩:=t;simp only[Tm.kind_mk,Tm.args_mk] at*;subst hk;rw[ha] at h;obtain⟨x,y,rfl⟩:=Ydi (Option.some.inj h).symm
 grind
theorem u9{t:Tm}(hs:t.shape=true){k:Int}(hk:t.kind=k)(ha:arK k=some 1):∃i th x,t= .mk k i th [x]/\x.shape=true:=by
 have h:=Ze2 hs;have h2:=zd hs;obtain⟨k',i,th,xs⟩:=t;simp only[Tm.kind_mk,Tm.args_mk] at*;subst hk;rw[ha] at h;obtain⟨x,rfl⟩:=Ygj (Option.some.inj h).symm
 grind
theorem Zhi{t:Tm}(hs:t.shape=true){k:Int}(hk:t.kind=k)(ha:arK k=some 3):∃i th x y z,t= .mk k i th [x,y,z]/\x.shape=true/\y.shape=true/\z.shape=true:=by
 have h:=Ze2 hs;have h2:=zd hs;obtain⟨k',i,th,xs⟩:=t;simp only[Tm.kind_mk,Tm.args_mk] at*;subst hk;rw[ha] at h;obtain⟨x,y,z,rfl⟩:=Yi1 (Option.some.inj h).symm
 grind
theorem Zok{t:Tm}(hs:t.shape=true)(h:Zjf t=true):
 (∃i th j s b a,t= .mk 3 i th [.mk 2 j s [b],a]/\b.shape=true/\a.shape=true/\(a.args.length=0\/y9 0 b<=1)/\Zds t=b.re (xy 0 a) 0)\/
 (∃k i th x y z,(k=6\/k=9)/\t= .mk k i th [x,y,z]/\x.shape=true/\Zds t=x)\/
 (∃k i th j s x y,(k=11\/k=12)/\t= .mk k i th [.mk 10 j s [x,y]]/\x.shape=true/\y.shape=true/\Zds t=if k=11 then x else y):=by
 unfold Zjf at h;by_cases h3:t.kind=3
 ·left;rw[if_pos h3] at h;obtain⟨i,th,f,a,rfl,hf,ha⟩:=Zdq hs h3 rfl;simp only[Tm.arg,Tm.args_mk,List.getD_cons_zero,List.getD_cons_succ,Bool.and_eq_true,beq_iff_eq,Bool.or_eq_true,decide_eq_true_eq] at h;obtain⟨j,s,b,rfl,hb⟩:=u9 hf h.1 rfl;exact⟨i,th,j,s,b,a,rfl,hb,ha,by simp_all,rfl⟩
 ·rw[if_neg h3] at h;by_cases h6:t.kind=6
  ·obtain ⟨i,th,x,y,z,rfl,hx,_,_⟩:=Zhi hs h6 rfl;exact .inr (.inl ⟨6,i,th,x,y,z,.inl rfl,rfl,hx,rfl⟩)
  ·rw[if_neg h6] at h;by_cases h9:t.kind=9
   ·obtain ⟨i,th,x,y,z,rfl,hx,_,_⟩:=Zhi hs h9 rfl;exact .inr (.inl ⟨9,i,th,x,y,z,.inr rfl,rfl,hx,rfl⟩)
   ·rw[if_neg h9] at h;by_cases h11:t.kind=11\/t.kind=12
    ·rw[if_pos h11] at h;have ha:arK t.kind=some 1:=by rcases h11 with h|h<;>rw[h]<;>rfl
     obtain⟨i,th,p,rfl',hp⟩:=u9 hs rfl ha;rw[rfl'] at h;simp only[Tm.arg,Tm.args_mk,List.getD_cons_zero,beq_iff_eq] at h;obtain⟨j,s,x,y,rfl,hx,hy⟩:=Zdq hp h rfl;refine .inr (.inr ⟨t.kind,i,th,j,s,x,y,h11,rfl',hx,hy,?_⟩);rcases h11 with hk|hk<;>rw[rfl',hk]<;>rfl
    grind
theorem Zyx{t:Tm}{g:List Ty}{T:Ty}(hs:t.shape=true)(h:t.inf g=(T,0))(hsm:Zjf t=true):(Zds t).inf g=(T,0)/\(Zds t).shape=true/\(Zds t).size<t.size:=by
 rcases Zok hs hsm with⟨i,th,j,s,b,a,rfl,hb,ha,hor,e⟩|⟨k,i,th,x,y,z,hk,rfl,hx,e⟩|⟨k,i,th,j,s,x,y,hk,rfl,hx,hy,e⟩
 ·rw[e];obtain⟨h1,h2⟩:=u3 (by simp) (by simp) h;have hf:(Tm.mk 2 j s [b]).inf g=(((Tm.mk 2 j s [b]).inf g).1,0):=by rw[<-h1 (.mk 2 j s [b]) (by simp)]
  obtain⟨h3,h4⟩:=Zdh hf;have ha0:=h1 a (by simp);simp only[Tm.kind_mk,Tm.ty_mk,Tm.args_mk,List.map_cons,List.map_nil,h4] at h2;have h5:s=(a.inf g).1/\(b.inf (g++[s])).1=T:=by
   simp only[Zaf,at0,List.getD_cons_zero,List.getD_cons_succ,Zp3,Zpr] at h2
   grind
  have hσ:a.inf g=(s,0):=by grind
  have hp:=Zqy b a g [] s 0 0 hb ha rfl hσ;rw[List.append_nil,List.append_nil] at hp;refine⟨by grind,Zgs 0 ha hb (by omega) (by omega) (fun p hp=>wv b 0 p hp),?_⟩;rw[Zid 0 a b ha 0 hb];have hc:=Zjb b 0 0 hb;rw[show(0:Int)+0=0 from rfl] at hc;have hsz:(Tm.mk 3 i th [Tm.mk 2 j s [b],a]).size=2+b.size+a.size:=by simp only[Tm.size,Tm.sizes];omega
  rw[hsz,<-hc];have hap:=a.size_pos;rcases hor with h0|h0
  ·have:a.size=1:=by rw[a.size_eq,List.eq_nil_of_length_eq_zero h0];rfl
   grind
  ·have:y9 0 b*(a.size-1)<=1*(a.size-1):=Nat.mul_le_mul_right _ h0;omega
 ·rw[e];have hne:(Tm.mk k i th [x,y,z]).kind≠1/\(Tm.mk k i th [x,y,z]).kind≠2:=by rcases hk with rfl|rfl<;>exact⟨by simp,by simp⟩
  obtain⟨h1,h2⟩:=u3 hne.1 hne.2 h;have hx0:=h1 x (by simp);refine⟨?_,hx,by simp only[Tm.size,Tm.sizes];omega⟩;have h3:(x.inf g).1=th/\th=T:=by
   simp only[Tm.kind_mk,Tm.ty_mk,Tm.args_mk,List.map_cons,List.map_nil] at h2;rcases hk with rfl|rfl
   ·simp only[Zaf,at0,List.getD_cons_zero,List.getD_cons_succ] at h2
    grind
   ·simp only[Zaf,at0,List.getD_cons_zero,List.getD_cons_succ] at h2
    grind
  grind
 ·rw[e];have hne:(Tm.mk k i th [Tm.mk 10 j s [x,y]]).kind≠1/\(Tm.mk k i th [Tm.mk 10 j s [x,y]]).kind≠2:=by rcases hk with rfl|rfl<;>exact⟨by simp,by simp⟩
  obtain⟨h1,h2⟩:=u3 hne.1 hne.2 h;have hf:(Tm.mk 10 j s [x,y]).inf g=(((Tm.mk 10 j s [x,y]).inf g).1,0):=by rw[<-h1 (.mk 10 j s [x,y]) (by simp)]
  obtain⟨h3,h4,h5⟩:=Zmh hf;simp only[Tm.kind_mk,Tm.ty_mk,Tm.args_mk,List.map_cons,List.map_nil,h5] at h2;rcases hk with rfl|rfl
  ·rw[if_pos rfl];refine⟨?_,hx,by simp only[Tm.size,Tm.sizes];omega⟩;simp[Zaf,at0] at h2
   grind
  ·rw[if_neg (by decide)];refine⟨?_,hy,by simp only[Tm.size,Tm.sizes];omega⟩;simp[Zaf,at0] at h2
   grind
theorem Zro{α:Type}(f:α->Nat)(u:α):∀(xs:List α) (i:Nat) (hi:i<xs.length),((xs.set i u).map f).sum+f xs[i]=(xs.map f).sum+f u
 |[],i,hi=>by grind
 |x::l,0,_=>by grind
 |x::l,i+1,hi=>by
  have:=Zro f u l i (by grind)
  grind
theorem Zif(g:List Ty)(u:Tm):∀(xs:List Tm) (i:Nat) (hi:i<xs.length),u.inf g=xs[i].inf g->Tm.infs g (xs.set i u)=Tm.infs g xs
 |[],i,hi,_=>by rfl
 |x::l,0,_,h=>by
  simp only[List.getElem_cons_zero] at h;simp only[List.set_cons_zero,Tm.infs,h]
 |x::l,i+1,hi,h=>by
  simp only[List.set_cons_succ,Tm.infs];rw[Zif g u l i (by grind) (by grind)]
theorem Zyo(i:Int)(th:Ty)(xs:List Tm)(g:List Ty):(Tm.mk 2 i th xs).inf g=if(Tm.infs (g++[th]) xs).2≠0 then(noTy,(Tm.infs (g++[th]) xs).2) else okT (xj th (at0 (Tm.infs (g++[th]) xs).1 0)):=by
 rfl
theorem Zow{i:Int}{th:Ty}{v b:Tm}{g:List Ty}(hv:v.inf (g++[th])=b.inf (g++[th])):(Tm.mk 2 i th [v]).inf g=(Tm.mk 2 i th [b]).inf g:=by
 have e:Tm.infs (g++[th]) [v]=Tm.infs (g++[th]) [b]:=Zif (g++[th]) v [b] 0 (by simp) hv;rw[Zyo,Zyo,e]
theorem Zj6{k i:Int}{th:Ty}{xs:List Tm}{m:Nat}{u:Tm}(h:(Tm.mk k i th xs).shape=true)(hu:u.shape=true):(Tm.mk k i th (xs.set m u)).shape=true:=by
 have hargs:=zd h;rw[Tm.shape_eq] at h ⊢;simp only[Bool.and_eq_true] at h ⊢;refine⟨?_,?_⟩
 ·have e:(Tm.mk k i th (xs.set m u)).head=(Tm.mk k i th xs).head:=by simp only[Tm.head,Tm.kind_mk,Tm.args_mk,Tm.index_mk,Tm.ty_mk];grind
  grind
 ·refine List.all_eq_true.2 fun x hx=> ?_;rcases List.mem_or_eq_of_mem_set hx with hx|rfl;all_goals simp_all
theorem next_ok(t:Tm):∀(g:List Ty) (T:Ty) (u:Tm),t.shape=true->t.inf g=(T,0)->Zgh t=some u->u.inf g=(T,0)/\u.shape=true/\u.size<t.size:=by
 induction t using Tm.ind with
 |h t ih=>
  intro g T u hs h hn;rw[Zt5] at hn;by_cases hsm:Zjf t=true
  ·rw[if_pos hsm] at hn;cases hn;exact Zyx hs h hsm
  ·rw[if_neg hsm,Option.map_eq_some_iff] at hn;obtain⟨ys,h1,rfl⟩:=hn;obtain⟨m,hm,v,h2,rfl,_⟩:=Zjn _ _ h1;have hargs:=zd hs;have hx:=hargs _ (List.getElem_mem hm);have hmem:=List.getElem_mem hm;have hss:=fun(hv:v.size<(t.args[m]).size)=>Zro Tm.size v t.args m hm;by_cases k1:t.kind=1
   ·exact absurd (Zbc hs k1) (fun hh=>by grind)
   ·have key:∀g' T',(t.args[m]).inf g'=(T',0)->v.inf g'=(T',0)/\v.shape=true/\v.size<(t.args[m]).size:=fun g' T' hi=>ih _ hmem g' T' v hx hi h2;by_cases k2:t.kind=2
    ·obtain ⟨i,th,b,rfl,hb⟩:=u9 hs k2 rfl;obtain⟨h3,h4⟩:=Zdh h;have hm0:m=0:=by simp_all
     subst hm0;simp only[Tm.args_mk,List.getElem_cons_zero] at*;obtain⟨q1,q2,q3⟩:=key (g++[th]) (b.inf (g++[th])).1 (by grind);refine⟨?_,Zj6 (m:=0) (xs:=[b]) hs q2,?_⟩
     ·have:v.inf (g++[th])=b.inf (g++[th]):=by grind
      rw[<-h];simp only[List.set_cons_zero,Tm.kind_mk,Tm.ty_mk,Tm.index_mk];exact Zow this
     ·simp only[List.set_cons_zero,Tm.size,Tm.sizes];omega
    ·obtain ⟨h3,h4⟩:=u3 k1 k2 h;have h5:=h3 _ hmem;obtain⟨q1,q2,q3⟩:=key g (t.args[m].inf g).1 (by grind);have hset:=hss q3;have hi:v.inf g=(t.args[m]).inf g:=by grind
     refine⟨?_,?_,?_⟩
     ·rw[<-h,Tm.inf_eq g (Tm.mk t.kind t.index t.ty (t.args.set m v)),if_neg (show ¬(Tm.mk t.kind t.index t.ty (t.args.set m v)).kind=1 from k1),if_neg (show ¬(Tm.mk t.kind t.index t.ty (t.args.set m v)).kind=2 from k2),t.inf_eq,if_neg k1,if_neg k2];show(if(Tm.infs g (t.args.set m v)).2≠0 then(noTy,(Tm.infs g (t.args.set m v)).2) else Zaf t.kind t.ty (Tm.infs g (t.args.set m v)).1)=_;rw[Zif g v t.args m hm hi]
     ·obtain ⟨k,i,th,xs⟩:=t;exact Zj6 hs q2
     ·rw[t.size_eq,Tm.size_eq];simp only[Tm.args_mk];omega
theorem yz(t:Tm):t.shape=true->t.full<=65*t.size:=by
 induction t using Tm.ind with
 |h t ih=>
  intro hs;have hargs:=zd hs;have hty:t.ty.size<=64:=by
   rw[Tm.shape_eq,Bool.and_eq_true] at hs;have:=hs.1;simp only[Tm.head,Bool.and_eq_true] at this;have h2:=this.2;cases hk:we t.kind with
   |true=>rw[hk] at h2;simp only[cond_true,Ty.ok,Bool.and_eq_true,decide_eq_true_eq] at h2;omega
   |false=>
    rw[hk] at h2;simp only[cond_false,Ty.isNo,Bool.and_eq_true,beq_iff_eq] at h2;rw[t.ty.size_eq,List.eq_nil_of_length_eq_zero h2.2];simp
  have hsum:=xv (f:=Tm.full) (g:=fun x=>65*x.size) t.args fun x hx=>ih x hx (hargs x hx);have hmul:∀l:List Tm,(l.map fun x=>65*x.size).sum=65*(l.map Tm.size).sum:=by
   intro l;induction l<;>grind
  rw[hmul] at hsum;rw[t.full_eq,t.size_eq];omega
inductive Red:Tm->Tm->Nat->Prop
 |done {t:Tm} (h:Zgh t=none):Red t t 0
 |step {t u v:Tm} {n:Nat} (h:Zgh t=some u) (hr:Red u v n):Red t v (n+1)
theorem Red.ex(g:List Ty)(T:Ty):∀(s:Nat) (t:Tm),t.size<=s->t.shape=true->t.inf g=(T,0)->∃u n,Red t u n/\n<=t.size/\u.size<=t.size/\u.shape=true/\u.inf g=(T,0)/\Zgh u=none:=by
 intro s;induction s with
 |zero=>intro t h;have:=t.size_pos;omega
 |succ s ih=>
  intro t hz hs h;cases hn:Zgh t with
  |none=>exact⟨t,0,.done hn,by omega,by omega,hs,h,hn⟩
  |some u=>
   obtain⟨h1,h2,h3⟩:=next_ok t g T u hs h hn;obtain⟨v,n,h4,h5,h6,h7,h8,h9⟩:=ih u (by omega) h2 h1;exact⟨v,n+1,.step hn h4,by omega,by omega,h7,h8,h9⟩
theorem Zil(a b:Tm):Zgh (nT 10 [a,b])=match Zgh a with|some u=>some (nT 10 [u,b])|none=>(Zgh b).map fun v=>nT 10 [a,v]:=by
 rw[Zt5,if_neg (by simp[Zjf,nT])];simp only[nT,Tm.args_mk,Tm.kind_mk,Tm.index_mk,Tm.ty_mk,Ziz]
 grind
theorem Red.right{a:Tm}(ha:Zgh a=none){b y:Tm}{m:Nat}(h:Red b y m):Red (nT 10 [a,b]) (nT 10 [a,y]) m:=by
 induction h with
 |done h=>exact .done (by rw[Zil,ha,h];rfl)
 |step h _ ih=>exact .step (by rw[Zil,ha,h];rfl) ih
theorem Red.pair{a x b y:Tm}{n m:Nat}(h:Red a x n)(hb:Red b y m):Red (nT 10 [a,b]) (nT 10 [x,y]) (n+m):=by
 induction h with
 |done h=>rw[Nat.zero_add];exact Red.right h hb
 |step h _ ih=>rw[Nat.add_right_comm];exact .step (by rw[Zil,h]) ih
def Zal(k:Int)(a b:Fm):Fm:= .mk k (.mk 0 []) [] [a,b]
def quF(k:Int)(s:Ty)(f:Fm):Fm:= .mk k s [] [f]
def Dk.eqf(d:Dk)(g:List Ty):Fm×Dk:=(eqF (Dk.tm 3 d g natT).1 (Dk.tm 3 (Dk.tm 3 d g natT).2 g natT).1,(Dk.tm 3 (Dk.tm 3 d g natT).2 g natT).2)
def Dk.fm:Nat->Dk->List Ty->Fm×Dk
 |0,d,g=>d.eqf g
 |n+1,d,g=>
  if(d.next 9).1=0 then(Zal 2 (Dk.fm n (d.next 9).2 g).1 (Dk.fm n (Dk.fm n (d.next 9).2 g).2 g).1,(Dk.fm n (Dk.fm n (d.next 9).2 g).2 g).2)
  else if(d.next 9).1=1\/(d.next 9).1=2 then(Zal 3 (Dk.fm n (d.next 9).2 g).1 (Dk.fm n (Dk.fm n (d.next 9).2 g).2 g).1,(Dk.fm n (Dk.fm n (d.next 9).2 g).2 g).2)
  else if(d.next 9).1=3\/(d.next 9).1=4 then(quF 4 ((d.next 9).2.type 1).1 (Dk.fm n ((d.next 9).2.type 1).2 (g++[((d.next 9).2.type 1).1])).1,(Dk.fm n ((d.next 9).2.type 1).2 (g++[((d.next 9).2.type 1).1])).2)
  else if(d.next 9).1=5 then(quF 5 ((d.next 9).2.type 1).1 (Dk.fm n ((d.next 9).2.type 1).2 (g++[((d.next 9).2.type 1).1])).1,(Dk.fm n ((d.next 9).2.type 1).2 (g++[((d.next 9).2.type 1).1])).2)
  else if(d.next 9).1=6 then(quF (6+(((d.next 9).2.type 0).2.next 2).1) ((d.next 9).2.type 0).1 (Dk.fm n (((d.next 9).2.type 0).2.next 2).2 (g++[((d.next 9).2.type 0).1])).1,(Dk.fm n (((d.next 9).2.type 0).2.next 2).2 (g++[((d.next 9).2.type 0).1])).2)
  else(d.next 9).2.eqf g
theorem Dk.eqf_ok{d:Dk}{g:List Ty}(h:d.ok):(d.eqf g).2.ok:=Dk.tm_ok 3 _ g natT (Dk.tm_ok 3 d g natT h)
theorem Dk.fm_ok:∀(n:Nat) (d:Dk) (g:List Ty),d.ok->(Dk.fm n d g).2.ok:=by
 intro n;induction n with
 |zero=>exact fun d g h=>Dk.eqf_ok h
 |succ n ih=>
  intro d g h;have h9:=Dk.next_ok h 9;simp only[Dk.fm];repeat' split
  ·grind
  ·grind
  ·exact ih _ _ (Dk.type_ok 1 _ h9)
  ·exact ih _ _ (Dk.type_ok 1 _ h9)
  ·exact ih _ _ (Dk.next_ok (Dk.type_ok 0 _ h9) 2)
  ·exact Dk.eqf_ok h9
theorem s1_3:s1 3<=60:=by decide
def FmOk(n:Nat)(f:Fm):Prop:=f.shape=true/\f.size+1<=122*2^n/\f.full+10<=1200*2^n
theorem Dk.eqf_good(d:Dk){g:List Ty}(hg:smalls g):FmOk 0 (d.eqf g).1:=by
 have m1:=Dk.tm_mk 3 d g natT hg zh (by omega) (by omega);have m2:=Dk.tm_mk 3 (Dk.tm 3 d g natT).2 g natT hg zh (by omega) (by omega);have z1:=(m1.size hg zh).2 rfl;have z2:=(m2.size hg zh).2 rfl;have f1:=m1.full hg zh;have f2:=m2.full hg zh;have h3:=s1_3;refine⟨Zbq (m1.shape hg zh) (m2.shape hg zh),?_,?_⟩
 ·show (eqF _ _).size+1<=_;rw[Zc7];omega
 ·show (eqF _ _).full+10<=_;rw[Fm.full_eq];simp only[eqF,Fm.ty_mk,Fm.terms_mk,Fm.args_mk,List.map_cons,List.map_nil,List.sum_cons,List.sum_nil,Ty.size,Ty.sizes];omega
theorem Zor{n:Nat}{k:Int}{a b:Fm}(hk:k=2\/k=3)(ha:FmOk n a)(hb:FmOk n b):FmOk (n+1) (Zal k a b):=by
 obtain⟨a1,a2,a3⟩:=ha;obtain⟨b1,b2,b3⟩:=hb;refine⟨?_,?_,?_⟩
 ·rw[Fm.shape_eq];rcases hk with rfl|rfl<;>simp[Zal,Fm.head,a1,b1,Ty.isNo]
 ·rw[Fm.size_eq,Nat.pow_succ];simp only[Zal,Fm.terms_mk,Fm.args_mk,List.map_cons,List.map_nil,List.sum_cons,List.sum_nil];omega
 ·rw[Fm.full_eq,Nat.pow_succ];have:1<=2^n:=Nat.one_le_two_pow;simp only[Zal,Fm.ty_mk,Fm.terms_mk,Fm.args_mk,List.map_cons,List.map_nil,List.sum_cons,List.sum_nil,Ty.size,Ty.sizes];omega
theorem Zm9{n:Nat}{k:Int}{s:Ty}{f:Fm}(hk:4<=k/\k<=7)(hs:s.small)(hf:FmOk n f):FmOk (n+1) (quF k s f):=by
 obtain⟨a1,a2,a3⟩:=hf;have hz:=hs.2;have:1<=2^n:=Nat.one_le_two_pow;refine⟨?_,?_,?_⟩
 ·rw[Fm.shape_eq];have h4:k=4\/k=5\/k=6\/k=7:=by omega
  rcases h4 with rfl|rfl|rfl|rfl<;>simp[quF,Fm.head,a1,Yba hs]
 ·rw[Fm.size_eq,Nat.pow_succ];simp only[quF,Fm.terms_mk,Fm.args_mk,List.map_cons,List.map_nil,List.sum_cons,List.sum_nil];omega
 ·rw[Fm.full_eq,Nat.pow_succ];simp only[quF,Fm.ty_mk,Fm.terms_mk,Fm.args_mk,List.map_cons,List.map_nil,List.sum_cons,List.sum_nil];omega
theorem FmOk.up{n:Nat}{f:Fm}(h:FmOk 0 f):FmOk (n+1) f:=by
 obtain⟨a1,a2,a3⟩:=h;have:1<=2^(n+1):=Nat.one_le_two_pow;exact⟨a1,by omega,by omega⟩
theorem Dk.fm_good:∀(n:Nat) (d:Dk) (g:List Ty),smalls g->FmOk n (Dk.fm n d g).1:=by
 intro n;induction n with
 |zero=>exact fun d g hg=>Dk.eqf_good d hg
 |succ n ih=>
  intro d g hg;have h2:=Dk.next_bd (((d.next 9).2.type 0).2) 2 (by omega);have s1:=Dk.type1 (d.next 9).2;have s0:=Dk.type0 (d.next 9).2;have s0':=z8 s0.1 s0.2;simp only[Dk.fm];repeat' split
  ·exact Zor (.inl rfl) (ih _ _ hg) (ih _ _ hg)
  ·exact Zor (.inr rfl) (ih _ _ hg) (ih _ _ hg)
  ·exact Zm9 ⟨by omega,by omega⟩ s1 (ih _ _ (zj hg (ze s1 zi)))
  ·exact Zm9 ⟨by omega,by omega⟩ s1 (ih _ _ (zj hg (ze s1 zi)))
  ·exact Zm9 ⟨by omega,by omega⟩ s0' (ih _ _ (zj hg (ze s0' zi)))
  ·exact (Dk.eqf_good _ hg).up
theorem Ty.no_of{t:Ty}(h:t.isNo=true):t= .mk 0 []:=by
 obtain⟨k,as⟩:=t;simp only[Ty.isNo,Ty.kind,Ty.args,Bool.and_eq_true,beq_iff_eq,List.length_eq_zero_iff] at h
 grind
def upF(k b:Int):Int:=if x9 k=true then b+1 else b
mutual
def Fm.tms(b:Int):Fm->List (Tm×Int)
 | .mk k _ ts as=>ts.map (fun t=>(t,b))++Fm.tmss (upF k b) as
def Fm.tmss(b:Int):List Fm->List (Tm×Int)
 |[]=>[]
 |f::l=>f.tms b++Fm.tmss b l
end
mutual
def Fm.re(g:Int->Tm->Tm)(b:Int):Fm->Fm
 | .mk k h ts as=> .mk k h (ts.map (g b)) (Fm.res g (upF k b) as)
def Fm.res(g:Int->Tm->Tm)(b:Int):List Fm->List Fm
 |[]=>[]
 |f::l=>f.re g b::Fm.res g b l
end
theorem Fm.tmss_eq(b:Int):∀l:List Fm,Fm.tmss b l=l.flatMap (Fm.tms b)
 |[]=>rfl
 |f::l=>by rw[Fm.tmss,Fm.tmss_eq b l,List.flatMap_cons]
theorem Fm.res_eq(g:Int->Tm->Tm)(b:Int):∀l:List Fm,Fm.res g b l=l.map (Fm.re g b)
 |[]=>rfl
 |f::l=>by rw[Fm.res,Fm.res_eq g b l,List.map_cons]
theorem Fm.tms_eq(b:Int)(f:Fm):f.tms b=f.terms.map (fun t=>(t,b))++f.args.flatMap (Fm.tms (upF f.kind b)):=by cases f;simp only[Fm.tms,Fm.tmss_eq];rfl
theorem Fm.re_eq(g:Int->Tm->Tm)(b:Int)(f:Fm):f.re g b= .mk f.kind f.ty (f.terms.map (g b)) (f.args.map (Fm.re g (upF f.kind b))):=by cases f;simp only[Fm.re,Fm.res_eq];rfl
def u5(at_:Int):List (Tm×Int)->Nat
 |[]=>0
 |p::l=>cnt (at_+p.2) (p.1.vars 0)+u5 at_ l
theorem xo(at_:Int):∀l l':List (Tm×Int),u5 at_ (l++l')=u5 at_ l+u5 at_ l'
 |[],l'=>by simp[u5]
 |p::l,l'=>by simp only[List.cons_append,u5,xo at_ l l'];omega
theorem Zmd(at_:Int):∀l:List (Tm×Int),u5 at_ l<=(l.map fun p=>p.1.size).sum
 |[]=>Nat.le_refl _
 |p::l=>by
  have h1:=Ykk (at_+p.2) (p.1.vars 0);have h2:=p.1.vars_len 0;have h3:=Zmd at_ l;simp only[u5,List.map_cons,List.sum_cons];omega
theorem Zia(f:Fm):∀b,((f.tms b).map fun p=>p.1.size).sum+1<=f.size:=by
 induction f using Fm.ind with
 |h f ih=>
  intro b;rw[Fm.tms_eq,Fm.size_eq];have h1:∀l:List Fm,(∀x∈l,∀b,((x.tms b).map fun p=>p.1.size).sum+1<=x.size)->((l.flatMap (Fm.tms (upF f.kind b))).map fun p=>p.1.size).sum<=(l.map Fm.size).sum:=by
   intro l;induction l<;>grind
  have h2:=h1 f.args ih;have h3:((f.terms.map fun t=>(t,b)).map fun p=>p.1.size)=f.terms.map Tm.size:=by simp
  grind
theorem x7(f:Fm):f.shape=true->∀b,∀p∈f.tms b,p.1.shape=true:=by
 induction f using Fm.ind with
 |h f ih=>
  intro hs b p hp;rw[Fm.shape_eq,Bool.and_eq_true,Bool.and_eq_true] at hs;rw[Fm.tms_eq,List.mem_append] at hp
  grind
def Tm.nearE(t:Tm):Bool:=(t.vars 0).all fun p=>decide (p.1<=268435456)
def Zqp(P:Tm->Bool)(b:Bool)(l:List (Tm×Int)):Bool:=b&&l.all fun p=>P p.1
theorem Zi6(P:Tm->Bool)(b:Bool)(l l':List (Tm×Int)):Zqp P (Zqp P b l) l'=Zqp P b (l++l'):=by simp[Zqp,Bool.and_assoc]
theorem Zh5(P:Tm->Bool)(b:Bool)(t:Tm)(i:Int):Zqp P b [(t,i)]=(b&&P t):=by simp[Zqp]
theorem Zmr(P:Tm->Bool)(b:Bool):Zqp P b []=b:=by simp[Zqp]
def Fm.near(f:Fm):Bool:=(f.tms 0).all fun p=>p.1.near
def Fm.nearE(f:Fm):Bool:=(f.tms 0).all fun p=>p.1.nearE
def Fm.put(f:Fm)(at_:Int)(s:Tm):Fm:=f.re (fun b t=>t.re (xy (at_+b) s) 0) 0
def xi(f:Fm)(at_:Int)(s:Tm):Int:=
 if f.err≠0 then f.err else if ¬(0<=at_/\at_<=4096) then 1 else if s.err≠0 then s.err else if f.near=false\/s.near=false then 1 else if(f.size:Int)+u5 at_ (f.tms 0)*(s.size-1)>4096 then 4 else 0
def Yjg(n:Int):List Tm->Int->Fm->Fm×Int
 |[],_,f=>(f,0)
 |t::l,k,f=>
  if Zj1 t 0 (n-1-k)≠0 then(noFm,Zj1 t 0 (n-1-k))
  else if xi f 0 (t.re (zk 0 (n-1-k)) 0)≠0 then(noFm,xi f 0 (t.re (zk 0 (n-1-k)) 0))
  else Yjg n l (k+1) (f.put 0 (t.re (zk 0 (n-1-k)) 0))
def fill(p:Fm)(l:List Tm):Fm×Int:=if p.err≠0 then(noFm,p.err) else if 16<l.length then(noFm,1) else Yjg l.length l 0 p
theorem Zf0(t:Tm):t.shape=true->t.full<=65*t.size:=by
 induction t using Tm.ind with
 |h t ih=>
  intro hs;rw[Tm.shape_eq,Bool.and_eq_true] at hs;have h0:t.ty.size<=64:=by
   have:=hs.1;simp only[Tm.head,Bool.and_eq_true] at this;have h1:=this.2;cases hk:we t.kind with
   |true=>rw[hk] at h1;simp only[cond_true,Ty.ok,Bool.and_eq_true,decide_eq_true_eq] at h1;omega
   |false=>
    rw[hk] at h1;have:=Ty.no_of (show t.ty.isNo=true from h1);rw[this];decide
  have h1:∀l:List Tm,(∀x∈l,x∈t.args)->(l.map Tm.full).sum<=65*(l.map Tm.size).sum:=by
   intro l;induction l<;>grind
  have h2:=h1 t.args fun _ h=>h;rw[Tm.full_eq,Tm.size_eq];omega
theorem Zb2(f:Fm):f.shape=true->f.full<=65*f.size:=by
 induction f using Fm.ind with
 |h f ih=>
  intro hs;rw[Fm.shape_eq,Bool.and_eq_true,Bool.and_eq_true] at hs;obtain⟨⟨hh,ht⟩,ha⟩:=hs;have h0:f.ty.size<=64:=by
   simp only[Fm.head] at hh;split at hh
   ·simp only[Bool.and_eq_true] at hh;rw[Ty.no_of hh.1.1];decide
   ·split at hh
    ·simp only[Bool.and_eq_true] at hh;rw[Ty.no_of hh.1.1];decide
    ·split at hh
     ·simp only[Bool.and_eq_true,Ty.ok,decide_eq_true_eq] at hh;omega
     grind
  have h1:∀l:List Fm,(∀x∈l,x∈f.args)->(l.map Fm.full).sum<=65*(l.map Fm.size).sum:=by
   intro l;induction l<;>grind
  have h2:∀l:List Tm,(∀x∈l,x∈f.terms)->(l.map Tm.full).sum<=65*(l.map Tm.size).sum:=by
   intro l;induction l with
   |nil=>simp
   |cons x l ih2=>
    intro h;have h2:=ih2 fun y hy=>h y (by grind);have hx:=h x (by simp);have h3:=Zf0 x (List.all_eq_true.1 ht x hx)
    grind
  have h3:=h1 f.args fun _ h=>h;have h4:=h2 f.terms fun _ h=>h;rw[Fm.full_eq,Fm.size_eq];omega
theorem xg{f:Fm}(h:f.err=0):f.full<=266240:=by
 have h1:=(Fm.err_iff f).1 h;have:=Zb2 f h1.1;omega
theorem yt{t:Tm}(h:t.err=0):t.full<=266240:=by
 have h1:=ut h;have:=Zf0 t h1.1;omega
theorem Zs5{f:Fm}(h:f.err=0)(hn:f.near=true):∀p∈f.tms 0,∀q∈p.1.vars 0,0<=q.1/\q.1<549755813888:=fun p hp q hq=>by
 have h1:p.1.shape=true:=x7 f ((Fm.err_iff f).1 h).1 0 p hp;have h2:=List.all_eq_true.1 hn p hp;have h3:=List.all_eq_true.1 h2 q hq;simp at h3;exact⟨p.1.vars_nonneg h1 0 q hq,by omega⟩
theorem Zwr(f:Fm):0<=f.num/\f.num<=4096:=by
 simp only[Fm.num];split
 ·rename_i h;have:=((Fm.err_iff f).1 h).2;omega
 simp
mutual
def Fm.same:Fm->Fm->Bool
 | .mk k h ts xs,.mk k' h' ts' ys=>k==k'&&decide (h=h')&&decide (ts=ts')&&Fm.sames xs ys
def Fm.sames:List Fm->List Fm->Bool
 |[],[]=>true
 |x::xs,y::ys=>x.same y&&Fm.sames xs ys
 |_,_=>false
end
mutual
theorem Fm.same_iff:∀a b:Fm,a.same b=true↔a=b
 | .mk k h ts xs,.mk k' h' ts' ys=>by simp only[Fm.same,Bool.and_eq_true,beq_iff_eq,decide_eq_true_eq,Fm.mk.injEq,Fm.sames_iff xs ys,and_assoc]
theorem Fm.sames_iff:∀a b:List Fm,Fm.sames a b=true↔a=b
 |[],[]=>by simp[Fm.sames]
 |x::xs,y::ys=>by simp only[Fm.sames,Bool.and_eq_true,List.cons.injEq,Fm.same_iff x y,Fm.sames_iff xs ys]
 |[],_::_=>by simp[Fm.sames]
 |_::_,[]=>by simp[Fm.sames]
end
instance:DecidableEq Fm:=fun a b=>decidable_of_iff _ (Fm.same_iff a b)
theorem re_congr{g g':Int->Int->Tm}(t:Tm):∀b,(∀p∈t.vars b,g p.1 p.2=g' p.1 p.2)->t.re g b=t.re g' b:=by
 induction t using Tm.ind with
 |h t ih=>
  intro b h;by_cases h1:t.kind=1
  ·rw[Zas h1,Zas h1];exact h (t.index,b) (by rw[t.vars_eq,if_pos h1];simp)
  ·rw[wq h1,wq h1];congr 1;exact List.map_congr_left fun x hx=>ih x hx _ fun p hp=>h p (Zgc h1 hx hp)
theorem Yco{at_:Int}{l:List (Int×Int)}(h:cnt at_ l=0):∀p∈l,¬p.1-p.2=at_:=by
 intro p hp he;have h1:p∈l.filter fun p=>p.1-p.2==at_:=List.mem_filter.2 ⟨hp,by grind⟩;have h2:=List.length_pos_of_mem h1;simp only[cnt] at h;omega
abbrev Ylz:=List (Int×Tm)
theorem Zmi{t:Tm}:∀{b b':Int},∀q∈t.vars b,∃q'∈t.vars b',q'.1=q.1:=by
 induction t using Tm.ind with
 |h t ih=>
  intro b b' q hq;rw[Tm.vars_eq,List.mem_append] at hq;rcases hq with hq|hq
  ·by_cases h1:t.kind=1
   ·rw[if_pos h1,List.mem_singleton] at hq;exact⟨(t.index,b'),by rw[Tm.vars_eq,if_pos h1];simp,by rw[hq]⟩
   grind
  ·obtain ⟨x,hx,hq⟩:=List.mem_flatMap.1 hq;obtain⟨q',h1,h2⟩:=ih x hx (b':=up t.kind b') q hq;exact⟨q',by rw[Tm.vars_eq];grind,h2⟩
theorem Zm0{f:Fm}:∀{b b':Int},∀q∈f.tms b,∃q'∈f.tms b',q'.1=q.1:=by
 induction f using Fm.ind with
 |h f ih=>
  intro b b' q hq;rw[Fm.tms_eq,List.mem_append] at hq;rcases hq with hq|hq
  ·obtain ⟨t,ht,rfl⟩:=List.mem_map.1 hq;exact⟨(t,b'),by rw[Fm.tms_eq];grind,rfl⟩
  ·obtain ⟨x,hx,hq⟩:=List.mem_flatMap.1 hq;obtain⟨q',h1,h2⟩:=ih x hx (b':=upF f.kind b') q hq;exact⟨q',by rw[Fm.tms_eq];grind,h2⟩
theorem zx{f x:Fm}(h:f.shape=true)(hx:x∈f.args):x.shape=true:=by
 rw[Fm.shape_eq,Bool.and_eq_true] at h
 grind
theorem yi{f:Fm}(h:f.shape=true){t:Tm}(ht:t∈f.terms):t.shape=true:=by
 rw[Fm.shape_eq,Bool.and_eq_true,Bool.and_eq_true] at h
 grind
theorem Zwl(at_:Int)(s:Tm)(hs:s.shape=true)(f:Fm):f.shape=true->∀b,(f.re (fun b t=>t.re (xy (at_+b) s) 0) b).full<=f.full+u5 at_ (f.tms b)*s.full:=by
 induction f using Fm.ind with
 |h f ih=>
  intro hf b;have e3:(f.re (fun b t=>t.re (xy (at_+b) s) 0) b).full=1+f.ty.size+((f.terms.map fun t=>t.re (xy (at_+b) s) 0).map Tm.full).sum+((f.args.map (Fm.re (fun b t=>t.re (xy (at_+b) s) 0) (upF f.kind b))).map Fm.full).sum:=by
   rw[Fm.re_eq,Fm.full_eq];rfl
  rw[e3,f.full_eq,Fm.tms_eq,xo,Nat.add_mul,List.map_map,List.map_map];have h1:∀l:List Tm,(∀x∈l,x∈f.terms)->(l.map (Tm.full∘fun t=>t.re (xy (at_+b) s) 0)).sum<=(l.map Tm.full).sum+u5 at_ (l.map fun t=>(t,b))*s.full:=by
   intro l;induction l with
   |nil=>simp
   |cons x l ihl=>
    intro hl;have h2:=Ybh (at_+b) s x hs 0 (yi hf (hl x (by simp)));have h3:=ihl fun y hy=>hl y (by grind);simp only[List.map_cons,List.sum_cons,Function.comp_apply,u5,Nat.add_mul];omega
  have h2:∀l:List Fm,(∀x∈l,x∈f.args)->(l.map (Fm.full∘Fm.re (fun b t=>t.re (xy (at_+b) s) 0) (upF f.kind b))).sum<=(l.map Fm.full).sum+u5 at_ (l.flatMap (Fm.tms (upF f.kind b)))*s.full:=by
   intro l;induction l with
   |nil=>simp
   |cons x l ihl=>
    intro hl;have h2:=ih x (hl x (by simp)) (zx hf (hl x (by simp))) (upF f.kind b);have h3:=ihl fun y hy=>hl y (by grind);simp only[List.map_cons,List.sum_cons,Function.comp_apply,List.flatMap_cons,xo,Nat.add_mul];omega
  grind
theorem Zea{f:Fm}{at_:Int}{s:Tm}(h:xi f at_ s=0):f.err=0/\s.err=0/\f.near=true/\s.near=true/\(f.size:Int)+u5 at_ (f.tms 0)*(s.size-1)<=4096:=by
 simp only[xi] at h
 grind
theorem Zv4{f:Fm}{at_:Int}{s:Tm}(h:xi f at_ s=0):(f.put at_ s).full<=1200000000:=by
 obtain⟨h1,h2,_,_,_⟩:=Zea h;have h3:=Zwl at_ s (ut h2).1 f ((Fm.err_iff f).1 h1).1 0;have h4:=xg h1;have h5:=yt h2;have h6:=Zmd at_ (f.tms 0);have h7:=Zia f 0;have h8:=((Fm.err_iff f).1 h1).2;have h9:u5 at_ (f.tms 0)*s.full<=4096*266240:=Nat.mul_le_mul (by omega) h5;show(f.re _ 0).full<=_;omega
theorem re_re(g g':Int->Int->Tm)(t:Tm):∀b,(t.re g b).re g' b=t.re (fun i c=>(g i c).re g' c) b:=by
 induction t using Tm.ind with
 |h t ih=>
  intro b;by_cases h1:t.kind=1
  ·rw[Zas h1,Zas h1]
  ·rw[wq h1,wq h1,wq (t:=Tm.mk _ _ _ _) (by simp_all)];simp_all
theorem Zmp(g:Int->Int->Tm)(t:Tm):∀b,t.shape=true->(t.re g b).vars b=(t.vars b).flatMap fun p=>(g p.1 p.2).vars p.2:=by
 induction t using Tm.ind with
 |h t ih=>
  intro b hs;by_cases h1:t.kind=1
  ·rw[Zas h1,Zaj hs h1];simp
  ·rw[wq h1,Zbo h1,Zbo (t:=Tm.mk _ _ _ _) (by simp_all)];simp only[Tm.kind_mk,Tm.args_mk,List.flatMap_assoc,List.flatMap_map];have:∀l:List Tm,(∀x∈l,x∈t.args)->l.flatMap (fun x=>(x.re g (up t.kind b)).vars (up t.kind b))=l.flatMap fun x=>(x.vars (up t.kind b)).flatMap fun p=>(g p.1 p.2).vars p.2:=by
    intro l;induction l with
    |nil=>simp
    |cons x l ihl=>
     intro h;rw[List.flatMap_cons,List.flatMap_cons,ihl fun y hy=>h y (by grind),ih x (h x (by simp)) _ (zd hs x (h x (by simp)))]
   grind
theorem Zw8(k b c:Int):up k (b+c)=up k b+c:=by simp only[up];omega
theorem vw(t:Tm):∀b c:Int,t.vars (b+c)=(t.vars b).map fun p=>(p.1,p.2+c):=by
 induction t using Tm.ind with
 |h t ih=>
  intro b c;rw[t.vars_eq,t.vars_eq,List.map_append,Zw8];congr 1
  ·grind
  ·rw[List.map_flatMap];have:∀l:List Tm,(∀x∈l,x∈t.args)->l.flatMap (Tm.vars (up t.kind b+c))=l.flatMap fun x=>(x.vars (up t.kind b)).map fun p=>(p.1,p.2+c):=by
    intro l;induction l<;>simp_all
   grind
theorem re_shift(g:Int->Int->Tm)(c:Int)(t:Tm):∀b,t.re g (b+c)=t.re (fun i d=>g i (d+c)) b:=by
 induction t using Tm.ind with
 |h t ih=>
  intro b;by_cases h1:t.kind=1
  ·rw[Zas h1,Zas h1]
  ·rw[wq h1,wq h1,Zw8];simp_all
theorem Zao(g:Int->Int->Tm)(c:Int)(t:Tm):t.re g c=t.re (fun i d=>g i (d+c)) 0:=by
 have:=re_shift g c t 0
 grind
theorem Zq9{f:Int×Int->Int×Int}{a a':Int}(l:List (Int×Int))(h:∀p∈l,((f p).1-(f p).2=a↔p.1-p.2=a')):cnt a (l.map f)=cnt a' l:=by
 induction l with
 |nil=>rfl
 |cons p l ih=>
  have h1:=ih fun q hq=>h q (by grind);have h2:=h p (by simp);rw[List.map_cons,show f p::l.map f=[f p]++l.map f from rfl,show p::l=[p]++l from rfl,w8,w8,h1,Zax,Zax]
  grind
theorem Zwf(a b:Int)(t:Tm):cnt a (t.vars b)=cnt (a+b) (t.vars 0):=by
 have:=vw t 0 b;rw[Int.zero_add] at this;rw[this];exact Zq9 _ fun p _=>by omega
theorem Zb0(j:Int)(g:Int->Int->Tm)(c:Int):(vT j).re g c=g j c:=by rfl
theorem Zql(j c:Int):(vT j).vars c=[(j,c)]:=by rfl
theorem yw(fr by_ i b:Int):zk fr by_ i b=vT (if i-b>=fr then i+by_ else i):=rfl
theorem vn(at_:Int)(s:Tm)(i b:Int):xy at_ s i b=if i-b=at_ then s.re (zk 0 (at_+b)) 0 else vT (if i-b>at_ then i-1 else i):=rfl
theorem re_id{g:Int->Int->Tm}(t:Tm):∀b,t.shape=true->(∀p∈t.vars b,g p.1 p.2=vT p.1)->t.re g b=t:=by
 induction t using Tm.ind with
 |h t ih=>
  intro b hs hg;by_cases h1:t.kind=1
  ·rw[Zas h1];have h2:=hg (t.index,b) (by rw[Zaj hs h1];simp);rw[h2];exact(Zkl hs h1).symm
  ·rw[wq h1];have h2:t.args.map (Tm.re g (up t.kind b))=t.args:=by
    conv=>rhs;rw[<-List.map_id t.args]
    exact List.map_congr_left fun x hx=>ih x hx _ (zd hs x hx) fun p hp=>hg p (Zgc h1 hx hp)
   simp_all
theorem Zcv(fr by_:Int)(t:Tm)(b:Int)(hs:t.shape=true):(t.re (zk fr by_) b).vars b=(t.vars b).map fun p=>(if p.1-p.2>=fr then p.1+by_ else p.1,p.2):=by
 rw[Zmp _ _ _ hs];simp only[yw,Zql];rw[List.map_eq_flatMap]
theorem Fm.re_re(G G':Int->Tm->Tm)(f:Fm):∀b,(f.re G b).re G' b=f.re (fun b t=>G' b (G b t)) b:=by
 induction f using Fm.ind with
 |h f ih=>
  intro b;rw[Fm.re_eq,Fm.re_eq,Fm.re_eq];simp_all
theorem Fm.re_congr{G G':Int->Tm->Tm}(f:Fm):∀b,(∀p∈f.tms b,G p.2 p.1=G' p.2 p.1)->f.re G b=f.re G' b:=by
 induction f using Fm.ind with
 |h f ih=>
  intro b h;rw[Fm.re_eq,Fm.re_eq];congr 1
  ·exact List.map_congr_left fun x hx=>h (x,b) (by rw[Fm.tms_eq];grind)
  ·exact List.map_congr_left fun x hx=>ih x hx _ fun p hp=>h p (by rw[Fm.tms_eq];grind)
theorem Fm.re_id{G:Int->Tm->Tm}(f:Fm):∀b,(∀p∈f.tms b,G p.2 p.1=p.1)->f.re G b=f:=by
 induction f using Fm.ind with
 |h f ih=>
  intro b h;rw[Fm.re_eq];have h1:f.terms.map (G b)=f.terms:=by
   conv=>rhs;rw[<-List.map_id f.terms]
   exact List.map_congr_left fun x hx=>h (x,b) (by rw[Fm.tms_eq];grind)
  have h2:f.args.map (Fm.re G (upF f.kind b))=f.args:=by
   conv=>rhs;rw[<-List.map_id f.args]
   exact List.map_congr_left fun x hx=>ih x hx _ fun p hp=>h p (by rw[Fm.tms_eq];grind)
  rw[h1,h2];cases f;rfl
theorem Zk8(k b:Int):b<=upF k b/\upF k b<=b+1:=by simp only[upF];omega
theorem Zgw{f:Fm}:∀{b:Int},∀p∈f.tms b,b<=p.2:=by
 induction f using Fm.ind with
 |h f ih=>
  intro b p hp;rw[Fm.tms_eq,List.mem_append] at hp;rcases hp with hp|hp
  ·grind
  ·obtain ⟨x,hx,hp⟩:=List.mem_flatMap.1 hp;have:=ih x hx p hp;have:=Zk8 f.kind b;omega
theorem Zeo{f:Fm}{at_:Int}{s:Tm}(ha:0<=at_)(hs:s.shape=true)(hf:f.shape=true):(f.put at_ s).shape=true:=by
 have key:∀(f:Fm) (b:Int),0<=b->f.shape=true->(f.re (fun b t=>t.re (xy (at_+b) s) 0) b).shape=true:=by
  intro f;induction f using Fm.ind with
  |h f ih=>
   intro b hb hf;have h0:=hf;rw[Fm.shape_eq,Bool.and_eq_true,Bool.and_eq_true] at h0;obtain⟨⟨h1,h2⟩,h3⟩:=h0;rw[Fm.re_eq,Fm.shape_eq,Bool.and_eq_true,Bool.and_eq_true];refine⟨⟨?_,?_⟩,?_⟩
   ·simp only[Fm.head,Fm.kind_mk,Fm.ty_mk,Fm.terms_mk,Fm.args_mk,List.length_map] at h1 ⊢;exact h1
   ·rw[Fm.terms_mk,List.all_eq_true];intro y hy;obtain⟨x,hx,rfl⟩:=List.mem_map.1 hy;exact Zgs 0 hs (List.all_eq_true.1 h2 x hx) (by omega) (by omega) fun p hp=>wv x 0 p hp
   ·rw[Fm.args_mk,List.all_eq_true];intro y hy;obtain⟨x,hx,rfl⟩:=List.mem_map.1 hy;have:=Zk8 f.kind b
    grind
 exact key f 0 (by omega) hf
def NewK(h:Int)(vs:List (Int×Int))(m m':Ylz):Prop:=∀k,k∈m'.map (·.1)↔k∈m.map (·.1)\/(0<=k/\k<h/\∃q∈vs,q.1-q.2=k)
theorem NewK.none{h:Int}{m:Ylz}{vs:List (Int×Int)}(hv:∀q∈vs,¬(0<=q.1-q.2/\q.1-q.2<h)):NewK h vs m m:=fun k=>by
 grind
theorem NewK.app{h:Int}{m m' m'':Ylz}{vs vs':List (Int×Int)}(h1:NewK h vs m m')(h2:NewK h vs' m' m''):NewK h (vs++vs') m m'':=fun k=>by
 rw[h2 k,h1 k];constructor
 ·rintro ((h3|⟨h3,h4,q,hq,h5⟩)|⟨h3,h4,q,hq,h5⟩);all_goals grind
 grind
theorem Zx0(n:Nat):∀(l:List Int),l.Nodup->(∀k∈l,0<=k/\k<n)->l.length<=n/\((∀k:Nat,k<n->(k:Int)∈l)↔l.length=n):=by
 induction n with
 |zero=>
  intro l _ h;cases l with
  |nil=>simp
  |cons x l=>have:=h x (by simp);omega
 |succ n ih=>
  intro l hn h;have h1:(l.filter (·≠(n:Int))).Nodup:=hn.filter _;have h2:=ih _ h1 fun k hk=>by
   rw[List.mem_filter] at hk;have:=h k hk.1;have h3:k≠(n:Int):=by simpa using hk.2
   omega
  have hcount:l.length=(l.filter (·≠(n:Int))).length+(if(n:Int)∈l then 1 else 0):=by
   clear h2 h1 ih h;induction l with
   |nil=>simp
   |cons x l ihl=>
    rw[List.nodup_cons] at hn;have:=ihl hn.2;by_cases hx:x=(n:Int)
    ·subst hx;rw[if_neg hn.1] at this;simp at this ⊢;omega
    ·have e:((n:Int)∈x::l)↔(n:Int)∈l:=by simp[Ne.symm hx]
     simp only[e,List.length_cons,List.filter_cons,ne_eq,hx,not_false_eq_true,decide_true,if_true];simp only[ne_eq] at this;omega
  by_cases hmem:(n:Int)∈l
  ·rw[if_pos hmem] at hcount;refine⟨by omega,?_⟩;constructor
   ·intro h3;have:=h2.2.1 fun k hk=>List.mem_filter.2 ⟨h3 k (by omega),by simp;omega⟩;omega
   ·intro h3 k hk;by_cases hkn:k=n
    ·subst hkn;exact hmem
    ·exact (List.mem_filter.1 (h2.2.2 (by omega) k (by omega))).1
  ·rw[if_neg hmem] at hcount;refine⟨by omega,?_⟩;constructor
   ·intro h3;exact absurd (h3 n (by omega)) hmem
   ·intro h3;omega
theorem Zpc(G:Int->Tm->Tm)(f:Fm):∀b,(f.re G b).tms b=(f.tms b).map fun p=>(G p.2 p.1,p.2):=by
 induction f using Fm.ind with
 |h f ih=>
  intro b;rw[Fm.re_eq,Fm.tms_eq,Fm.tms_eq];simp only[Fm.kind_mk,Fm.terms_mk,Fm.args_mk,List.map_append,List.map_map,List.map_flatMap,List.flatMap_map];congr 1;have:∀l:List Fm,(∀x∈l,x∈f.args)->l.flatMap (fun x=>(x.re G (upF f.kind b)).tms (upF f.kind b))=l.flatMap fun x=>(x.tms (upF f.kind b)).map fun p=>(G p.2 p.1,p.2):=by
   intro l;induction l<;>simp_all
  grind
theorem Znm{G:Int->Tm->Tm}{j j':Int}:∀l:List (Tm×Int),(∀p∈l,cnt (j+p.2) ((G p.2 p.1).vars 0)=cnt (j'+p.2) (p.1.vars 0))->u5 j (l.map fun p=>(G p.2 p.1,p.2))=u5 j' l
 |[],_=>rfl
 |p::l,h=>by
  simp only[List.map_cons,u5];rw[Znm l fun q hq=>h q (by grind),h p (by simp)]
theorem Zxu{k:Int}{l:List (Tm×Int)}(h:u5 k l=0):∀p∈l,cnt (k+p.2) (p.1.vars 0)=0:=by
 induction l with
 |nil=>simp
 |cons q l ih=>
  simp only[u5] at h
  grind
theorem ue(at_:Int)(s:Tm)(hs:s.shape=true)(f:Fm):f.shape=true->∀b,(f.re (fun b t=>t.re (xy (at_+b) s) 0) b).size=f.size+u5 at_ (f.tms b)*(s.size-1):=by
 induction f using Fm.ind with
 |h f ih=>
  intro hf b;have e3:(f.re (fun b t=>t.re (xy (at_+b) s) 0) b).size=1+((f.terms.map fun t=>t.re (xy (at_+b) s) 0).map Tm.size).sum+((f.args.map (Fm.re (fun b t=>t.re (xy (at_+b) s) 0) (upF f.kind b))).map Fm.size).sum:=by
   rw[Fm.re_eq,Fm.size_eq];rfl
  rw[e3,f.size_eq,Fm.tms_eq,xo,Nat.add_mul,List.map_map,List.map_map];have h1:∀l:List Tm,(∀x∈l,x∈f.terms)->(l.map (Tm.size∘fun t=>t.re (xy (at_+b) s) 0)).sum=(l.map Tm.size).sum+u5 at_ (l.map fun t=>(t,b))*(s.size-1):=by
   intro l;induction l with
   |nil=>intro _;simp[u5]
   |cons x l ihl=>
    intro hl;have h2:=Zid (at_+b) s x hs 0 (yi hf (hl x (by simp)));have h3:=ihl fun y hy=>hl y (by grind);simp only[List.map_cons,List.sum_cons,Function.comp_apply,u5,Nat.add_mul];omega
  have h2:∀l:List Fm,(∀x∈l,x∈f.args)->(l.map (Fm.size∘Fm.re (fun b t=>t.re (xy (at_+b) s) 0) (upF f.kind b))).sum=(l.map Fm.size).sum+u5 at_ (l.flatMap (Fm.tms (upF f.kind b)))*(s.size-1):=by
   intro l;induction l with
   |nil=>intro _;simp[u5]
   |cons x l ihl=>
    intro hl;have h2:=ih x (hl x (by simp)) (zx hf (hl x (by simp))) (upF f.kind b);have h3:=ihl fun y hy=>hl y (by grind);simp only[List.map_cons,List.sum_cons,Function.comp_apply,List.flatMap_cons,xo,Nat.add_mul];omega
  grind
theorem Yd2{f:Fm}{at_:Int}{s:Tm}(ha:0<=at_)(h:xi f at_ s=0):(f.put at_ s).err=0:=by
 obtain⟨h1,h2,_,_,h5⟩:=Zea h;have hf:=(Fm.err_iff f).1 h1;have hs:=(ut h2).1;refine(Fm.err_iff _).2 ⟨Zeo ha hs hf.1,?_⟩;have h6:=ue at_ s hs f hf.1 0;have hsp:=s.size_pos;show(f.re _ 0).size<=4096
 grind
mutual
def Fm.okT(g:List Ty):Fm->Prop
 | .mk k h ts as=>(∀t∈ts,t.inf g=(natT,0))/\Fm.okTs (if x9 k=true then g++[h] else g) as
def Fm.okTs(g:List Ty):List Fm->Prop
 |[]=>True
 |f::l=>f.okT g/\Fm.okTs g l
end
def Zg6(g:List Ty)(f:Fm):List Ty:=if x9 f.kind=true then g++[f.ty] else g
theorem Fm.okTs_iff(g:List Ty):∀l:List Fm,Fm.okTs g l↔∀x∈l,x.okT g
 |[]=>by simp[Fm.okTs]
 |f::l=>by simp only[Fm.okTs,Fm.okTs_iff g l,List.mem_cons,forall_eq_or_imp]
theorem Fm.okT_iff(g:List Ty)(f:Fm):f.okT g↔(∀t∈f.terms,t.inf g=(natT,0))/\∀x∈f.args,x.okT (Zg6 g f):=by
 cases f;simp only[Fm.okT,Fm.okTs_iff,Zg6];rfl
theorem Zgd{g:List Ty}{f:Fm}(h:x9 f.kind=true):Zg6 g f=g++[f.ty]:=if_pos h
theorem Zfv{g:List Ty}{f:Fm}(h:¬x9 f.kind=true):Zg6 g f=g:=if_neg h
theorem quantK_iff{k:Int}:x9 k=true↔4<=k/\k<=7:=by simp[x9]
theorem Zug(d:Dk){g:List Ty}(hg:smalls g):(d.eqf g).1.okT g:=by
 have m1:=(Dk.tm_mk 3 d g natT hg zh (by omega) (by omega)).inf hg zh;have m2:=(Dk.tm_mk 3 (Dk.tm 3 d g natT).2 g natT hg zh (by omega) (by omega)).inf hg zh;rw[Fm.okT_iff];refine⟨fun t ht=> ?_,fun x hx=>by cases hx⟩;simp only[Dk.eqf,eqF,Fm.terms_mk,List.mem_cons,List.not_mem_nil,or_false] at ht
 grind
theorem Zic{k:Int}{a b:Fm}{g:List Ty}(hk:k=2\/k=3)(ha:a.okT g)(hb:b.okT g):(Zal k a b).okT g:=by
 rw[Fm.okT_iff];have e:Zg6 g (Zal k a b)=g:=Zfv (by show ¬x9 k=true;rw[quantK_iff];omega);rw[e];refine And.intro (fun t ht=>by cases ht) (fun x hx=> ?_);simp only[Zal,Fm.args_mk,List.mem_cons,List.not_mem_nil,or_false] at hx
 grind
theorem Zdr{k:Int}{s:Ty}{a:Fm}{g:List Ty}(hk:4<=k/\k<=7)(ha:a.okT (g++[s])):(quF k s a).okT g:=by
 rw[Fm.okT_iff];have e:Zg6 g (quF k s a)=g++[s]:=Zgd (quantK_iff.2 hk);rw[e];refine And.intro (fun t ht=>by cases ht) (fun x hx=> ?_);simp only[quF,Fm.args_mk,List.mem_cons,List.not_mem_nil,or_false] at hx
 grind
theorem Dk.fm_okT:∀(n:Nat) (d:Dk) (g:List Ty),smalls g->(Dk.fm n d g).1.okT g:=by
 intro n;induction n with
 |zero=>exact fun d g hg=>Zug d hg
 |succ n ih=>
  intro d g hg;have h2:=Dk.next_bd (((d.next 9).2.type 0).2) 2 (by omega);have s1:=Dk.type1 (d.next 9).2;have s0:=Dk.type0 (d.next 9).2;have s0':=z8 s0.1 s0.2;simp only[Dk.fm];repeat' split
  ·exact Zic (.inl rfl) (ih _ _ hg) (ih _ _ hg)
  ·exact Zic (.inr rfl) (ih _ _ hg) (ih _ _ hg)
  ·exact Zdr ⟨by omega,by omega⟩ (ih _ _ (zj hg (ze s1 zi)))
  ·exact Zdr ⟨by omega,by omega⟩ (ih _ _ (zj hg (ze s1 zi)))
  ·exact Zdr ⟨by omega,by omega⟩ (ih _ _ (zj hg (ze s0' zi)))
  ·exact Zug _ hg
theorem Zm5(at_:Int)(s:Tm)(g:List Ty)(σ:Ty)(hs:s.shape=true)(hσ:s.inf g=(σ,0))(f:Fm):∀(h:List Ty) (b:Int),(h.length:Int)=at_+b->f.shape=true->f.okT (g++[σ]++h)->
 (f.re (fun b t=>t.re (xy (at_+b) s) 0) b).okT (g++h):=by
 induction f using Fm.ind with
 |h f ih=>
  intro h b hb hf hok;rw[Fm.okT_iff] at hok;rw[Fm.re_eq,Fm.okT_iff];simp only[Fm.terms_mk,Fm.args_mk];refine⟨fun y hy=> ?_,fun y hy=> ?_⟩
  ·obtain ⟨x,hx,rfl⟩:=List.mem_map.1 hy;rw[Zqy x s g h σ (at_+b) 0 (yi hf hx) hs (by omega) hσ]
   grind
  ·obtain ⟨x,hx,rfl⟩:=List.mem_map.1 hy;have h1:=hok.2 x hx;by_cases hq:x9 f.kind=true
   ·rw[Zgd hq] at h1;rw[show ∀ts as,Zg6 (g++h) (Fm.mk f.kind f.ty ts as)=g++h++[f.ty] from fun ts as=>Zgd (f:=Fm.mk f.kind f.ty ts as) hq];have e:upF f.kind b=b+1:=if_pos hq;rw[e,List.append_assoc];rw[List.append_assoc] at h1;exact ih x hx (h++[f.ty]) (b+1) (by grind) (zx hf hx) h1
   ·rw[Zfv hq] at h1;rw[show ∀ts as,Zg6 (g++h) (Fm.mk f.kind f.ty ts as)=g++h from fun ts as=>Zfv (f:=Fm.mk f.kind f.ty ts as) hq];have e:upF f.kind b=b:=if_neg hq;rw[e];exact ih x hx h b hb (zx hf hx) h1
theorem Zjt{f:Fm}:∀{g:List Ty} {b:Int},f.okT g->f.shape=true->∀q∈f.tms b,∀v∈q.1.vars 0,v.1<g.length+f.size:=by
 induction f using Fm.ind with
 |h f ih=>
  intro g b hok hf q hq v hv;have e:=f.size_eq;rw[Fm.okT_iff] at hok;rw[Fm.tms_eq,List.mem_append] at hq;rcases hq with hq|hq
  ·obtain ⟨t,ht,rfl⟩:=List.mem_map.1 hq;have h1:=zc Tm.size ht;have h2:=hok.1 t ht;exact Zch t g 0 _ (by rw[h2]) (yi hf ht) (by omega) v hv
  ·obtain ⟨x,hx,hq⟩:=List.mem_flatMap.1 hq;have h1:=zc Fm.size hx;have h2:=ih x hx (hok.2 x hx) (zx hf hx) q hq v hv;have h3:(Zg6 g f).length<=g.length+1:=by simp only[Zg6];grind
   omega
theorem Zzh{f:Fm}{g:List Ty}(h:f.okT g)(he:f.err=0)(hg:g.length<=1000):f.near=true/\f.nearE=true:=by
 have h1:=(Fm.err_iff f).1 he;refine⟨List.all_eq_true.2 fun q hq=>List.all_eq_true.2 fun v hv=> ?_,List.all_eq_true.2 fun q hq=>List.all_eq_true.2 fun v hv=> ?_⟩
 ·have:=Zjt h h1.1 q hq v hv;grind
 ·have:=Zjt h h1.1 q hq v hv;grind
theorem Znd{α:Type}{f:α->Nat}{l:List α}(h:∀j (hj:j<l.length),f l[j]=0):(l.map f).sum=0:=by
 induction l with
 |nil=>rfl
 |cons x l ih=>
  have h0:=h 0 (by simp);have h1:=ih fun j hj=>by have:=h (j+1) (by grind);grind
  grind
theorem Zqr{α:Type}{f:α->Nat}{l:List α}{m:Nat}(hm:m<l.length)(h:f l[m]≠0):(l.map f).sum≠0:=by
 have:=zc f (List.getElem_mem hm);omega
def vd(most:Int)(t:Tm):Bool:=(t.vars 0).all fun p=>decide (p.1<=most)
theorem Zx2(most b:Int)(t:Tm):(t.vars b).all (fun p=>decide (p.1<=most))=vd most t:=by
 have h:=vw t 0 b;rw[Int.zero_add] at h;rw[h,List.all_map];rfl
theorem Zm7{α β:Type}(f:α->List β)(p:β->Bool)(l:List α):(l.flatMap f).all p=l.all fun x=>(f x).all p:=by
 simp
theorem Zyj{most:Int}(h0:0<=most){t:Tm}(hs:t.shape=true):vd most t=(decide (t.index<=most)&&t.args.all (vd most)):=by
 simp only[vd];by_cases h1:t.kind=1
 ·rw[Zaj hs h1,Zbc hs h1];simp
 ·rw[Zbo h1,Zm7,(Zc6 hs).2 h1,decide_eq_true h0,Bool.true_and];congr 1;funext x;exact Zx2 most _ x
theorem Zkr(t:Tm):t.near=vd 536870912 t:=rfl
def Zcs(most:Int)(f:Fm):Bool:=(f.tms 0).all fun p=>vd most p.1
theorem Yaf(most:Int)(f:Fm):Zcs most f=(f.terms.all (vd most)&&f.args.all (Zcs most)):=by
 have key:∀(f:Fm) (b:Int),(f.tms b).all (fun p=>vd most p.1)=Zcs most f:=by
  intro f;induction f using Fm.ind with
  |h f ih=>
   intro b;have e:∀b,(f.tms b).all (fun p=>vd most p.1)=(f.terms.all (vd most)&&f.args.all (Zcs most)):=fun b=>by
    rw[Fm.tms_eq,List.all_append,List.all_map,Zm7]
    grind
   rw[e b,<-e 0];rfl
 have e:Zcs most f=(f.tms 0).all fun p=>vd most p.1:=rfl;rw[e,Fm.tms_eq,List.all_append,List.all_map,Zm7]
 grind
theorem Zrb(f:Fm):f.near=Zcs 536870912 f:=rfl
theorem Yhi(k fr by_:Int)(x:Tm):x.re (zk (up k fr) by_) 0=x.re (zk fr by_) (up k 0):=by
 rw[Zao (zk fr by_) (up k 0) x];refine re_congr x 0 fun p _=> ?_;simp only[yw];congr 1;have:up k fr=fr+up k 0:=by have:=Zw8 k 0 fr;grind
 omega
theorem Zyz{fr by_:Int}{t:Tm}(h:t.kind≠1):t.re (zk fr by_) 0= .mk t.kind t.index t.ty (t.args.map fun x=>x.re (zk (up t.kind fr) by_) 0):=by
 rw[wq h];congr 1;exact List.map_congr_left fun x _=>(Yhi _ _ _ x).symm
def zp(at_:Int)(f:Fm):Nat:=u5 at_ (f.tms 0)
theorem Zky(at_:Int)(f:Fm):∀b c:Int,u5 at_ (f.tms (b+c))=u5 (at_+c) (f.tms b):=by
 induction f using Fm.ind with
 |h f ih=>
  intro b c;rw[Fm.tms_eq,Fm.tms_eq,xo,xo];have e:upF f.kind (b+c)=upF f.kind b+c:=by simp only[upF];grind
  rw[e];congr 1
  ·generalize f.terms=l;induction l with
   |nil=>rfl
   |cons x l ihl=>
    simp only[List.map_cons,u5,ihl]
    grind
  ·have:∀l:List Fm,(∀x∈l,x∈f.args)->u5 at_ (l.flatMap (Fm.tms (upF f.kind b+c)))=u5 (at_+c) (l.flatMap (Fm.tms (upF f.kind b))):=by
    intro l;induction l with
    |nil=>intro _;rfl
    |cons x l ihl=>intro h;rw[List.flatMap_cons,List.flatMap_cons,xo,xo,ih x (h x (by simp)),ihl fun y hy=>h y (by grind)]
   grind
theorem Zo5{at_:Int}{f:Fm}(hs:f.shape=true):zp at_ f=(f.terms.map (y9 at_)).sum+(f.args.map (zp (upF f.kind at_))).sum:=by
 unfold zp;rw[Fm.tms_eq,xo];congr 1
 ·have:∀l:List Tm,(∀x∈l,x.shape=true)->u5 at_ (l.map fun t=>(t,(0:Int)))=(l.map (y9 at_)).sum:=by
   intro l;induction l with
   |nil=>intro _;rfl
   |cons x l ih=>
    intro h;have h1:=Zjb x at_ 0 (h x (by simp));simp only[List.map_cons,List.sum_cons,u5]
    grind
  exact this f.terms fun x hx=>yi hs hx
 ·have:∀l:List Fm,u5 at_ (l.flatMap (Fm.tms (upF f.kind 0)))=(l.map fun f'=>u5 (upF f.kind at_) (f'.tms 0)).sum:=by
   intro l;induction l with
   |nil=>rfl
   |cons x l ih=>
    rw[List.flatMap_cons,xo,ih,List.map_cons,List.sum_cons];congr 1;have h1:=Zky at_ x 0 (upF f.kind 0);rw[Int.zero_add] at h1;rw[h1];congr 1;simp only[upF];grind
  grind
theorem Zck(at_:Int)(f:Fm):zp at_ f<=f.size:=by
 have h1:=Zmd at_ (f.tms 0);have h2:=Zia f 0;unfold zp;omega
theorem Ygb(at_:Int)(s:Tm)(b:Int)(f:Fm):f.re (fun b t=>t.re (xy (at_+b) s) 0) b=f.re (fun b t=>t.re (xy at_ s) b) b:=by
 refine Fm.re_congr f b fun p _=> ?_;rw[Zao (xy at_ s) p.2];refine re_congr p.1 0 fun q _=> ?_;simp only[vn]
 grind
def vz{α:Type}(f:α->Int):List α->Int
 |[]=>0
 |x::l=>if f x≠0 then f x else vz f l
theorem Zcj{α:Type}{f:α->Int}:∀{l:List α} {m:Nat} (hm:m<l.length),(∀j (hj:j<l.length),j<m->f l[j]=0)->f l[m]≠0->vz f l=f l[m]
 |[],m,hm,_,_=>by grind
 |x::l,0,hm,_,h=>by simp only[vz,List.getElem_cons_zero] at h ⊢;omega
 |x::l,m+1,hm,h0,h=>by
  have h1:=h0 0 (by simp) (by omega);simp only[List.getElem_cons_zero] at h1;simp only[vz,List.getElem_cons_succ] at h ⊢;rw[if_neg (by omega)];exact Zcj (by grind) (fun j hj hjm=>by grind) h
theorem uk{α:Type}{f:α->Int}:∀{l:List α},(∀j (hj:j<l.length),j<l.length->f l[j]=0)->vz f l=0
 |[],_=>rfl
 |x::l,h0=>by
  have h1:=h0 0 (by simp) (by simp);simp only[List.getElem_cons_zero] at h1;simp only[vz];rw[if_neg (by omega)];exact uk fun j hj hjm=>by have:=h0 (j+1) (by grind) (by grind);grind
theorem Zen{α:Type}{f:α->Int}{l:List α}(h:∀x∈l,f x=0):vz f l=0:=uk fun j hj _=>h _ (List.getElem_mem hj)
def tE(g:List Ty)(t:Tm):Int:=if(Zc1 g t).2≠0 then(Zc1 g t).2 else if(Zc1 g t).1.kind≠1 then 7 else 0
mutual
def Fm.tyE(g:List Ty):Fm->Int
 | .mk k h ts as=>if vz (tE g) ts≠0 then vz (tE g) ts else Fm.tyEs (if x9 k=true then g++[h] else g) as
def Fm.tyEs(g:List Ty):List Fm->Int
 |[]=>0
 |f::l=>if f.tyE g≠0 then f.tyE g else Fm.tyEs g l
end
theorem Fm.tyEs_eq(g:List Ty):∀l:List Fm,Fm.tyEs g l=vz (Fm.tyE g) l
 |[]=>rfl
 |f::l=>by rw[Fm.tyEs,Fm.tyEs_eq g l];rfl
theorem Fm.tyE_eq(g:List Ty)(f:Fm):f.tyE g=if vz (tE g) f.terms≠0 then vz (tE g) f.terms else vz (Fm.tyE (Zg6 g f)) f.args:=by
 cases f;simp only[Fm.tyE,Fm.tyEs_eq,Zg6];rfl
def uq(g:List Ty)(f:Fm):Int:=if f.err≠0 then f.err else f.tyE g
def y6(g:List Ty)(f:Fm):Int:=if wd g≠0 then wd g else uq g f
theorem Yhf(f:Fm):∀g:List Ty,f.okT g->f.shape=true->f.size<=4096->f.tyE g=0:=by
 induction f using Fm.ind with
 |h f ih=>
  intro g hok hs hz;have e:=f.size_eq;rw[Fm.okT_iff] at hok;rw[Fm.tyE_eq];have h1:vz (tE g) f.terms=0:=Zen fun t ht=>by
   have h2:=zc Tm.size ht;have h3:t.err=0:=(Tm.err_iff t).2 ⟨yi hs ht,by omega⟩;have h4:Zc1 g t=(natT,0):=by simp only[Zc1];grind
   simp only[tE,h4];rfl
  rw[if_neg (by omega)];exact Zen fun x hx=>ih x hx _ (hok.2 x hx) (zx hs hx) (by have:=zc Fm.size hx;omega)
theorem Zjw{f:Fm}{g:List Ty}(h:f.okT g)(he:f.err=0)(hg:wd g=0):y6 g f=0:=by
 have h1:=(Fm.err_iff f).1 he;simp only[y6,uq];rw[if_neg (by omega),if_neg (by omega)];exact Yhf f g h h1.1 h1.2
def vg(t:Tm):Bool:=
 if t.kind=3 then(t.arg 0).kind==2
 else if t.kind=6 then(t.arg 2).kind==4||(t.arg 2).kind==5
 else if t.kind=9 then(t.arg 2).kind==7||(t.arg 2).kind==8
 else if t.kind=11\/t.kind=12 then(t.arg 0).kind==10 else false
def Yiu(t:Tm):Tm:=
 if t.kind=3 then((t.arg 0).arg 0).re (xy 0 (t.arg 1)) 0
 else if t.kind=6 then
  if(t.arg 2).kind=4 then t.arg 0 else apT (apT (t.arg 1) ((t.arg 2).arg 0)) (.mk 6 0 t.ty [t.arg 0,t.arg 1,(t.arg 2).arg 0])
 else if t.kind=9 then
  if(t.arg 2).kind=7 then t.arg 0 else apT (apT (apT (t.arg 1) ((t.arg 2).arg 0)) ((t.arg 2).arg 1)) (.mk 9 0 t.ty [t.arg 0,t.arg 1,(t.arg 2).arg 1])
 else if t.kind=11 then(t.arg 0).arg 0 else(t.arg 0).arg 1
def Zf4(t:Tm):Int:=(Yiu t).size-t.size
inductive RV:Tm->Tm->Prop
 |beta (i th j s b a):RV (.mk 3 i th [.mk 2 j s [b],a]) (b.re (xy 0 a) 0)
 |rz (i th x f j s):RV (.mk 6 i th [x,f,.mk 4 j s []]) x
 |rs (i th x f j s n):RV (.mk 6 i th [x,f,.mk 5 j s [n]]) (apT (apT f n) (.mk 6 0 th [x,f,n]))
 |fz (i th x f j s):RV (.mk 9 i th [x,f,.mk 7 j s []]) x
 |fs (i th x f j s h l):RV (.mk 9 i th [x,f,.mk 8 j s [h,l]]) (apT (apT (apT f h) l) (.mk 9 0 th [x,f,l]))
 |p1 (i th j s x y):RV (.mk 11 i th [.mk 10 j s [x,y]]) x
 |p2 (i th j s x y):RV (.mk 12 i th [.mk 10 j s [x,y]]) y
theorem Zfb{t:Tm}(hs:t.shape=true){k:Int}(hk:t.kind=k)(ha:arK k=some 0):∃i th,t= .mk k i th []:=by
 obtain⟨k',i,th,xs⟩:=t;rw[Tm.shape_eq,Bool.and_eq_true] at hs;have h:=hs.1;simp only[Tm.head,Bool.and_eq_true,Tm.kind_mk,Tm.args_mk] at h hk
 grind
theorem Zhq{t:Tm}(hs:t.shape=true)(h:vg t=true):RV t (Yiu t):=by
 unfold vg at h;by_cases h3:t.kind=3
 ·rw[if_pos h3] at h;obtain⟨i,th,f,a,rfl,hf,ha⟩:=Zdq hs h3 rfl;simp only[Tm.arg,Tm.args_mk,List.getD_cons_zero,beq_iff_eq] at h;obtain⟨j,s,b,rfl,hb⟩:=u9 hf h rfl;exact .beta i th j s b a
 rw[if_neg h3] at h;by_cases h6:t.kind=6
 ·rw[if_pos h6] at h;obtain⟨i,th,x,f,z,rfl,hx,hf,hz⟩:=Zhi hs h6 rfl;simp only[Tm.arg,Tm.args_mk,List.getD_cons_zero,List.getD_cons_succ,Bool.or_eq_true,beq_iff_eq] at h;rcases h with h|h
  ·obtain ⟨j,s,rfl⟩:=Zfb hz h rfl;exact .rz i th x f j s
  ·obtain ⟨j,s,n,rfl,hn⟩:=u9 hz h rfl;exact .rs i th x f j s n
 rw[if_neg h6] at h;by_cases h9:t.kind=9
 ·rw[if_pos h9] at h;obtain⟨i,th,x,f,z,rfl,hx,hf,hz⟩:=Zhi hs h9 rfl;simp only[Tm.arg,Tm.args_mk,List.getD_cons_zero,List.getD_cons_succ,Bool.or_eq_true,beq_iff_eq] at h;rcases h with h|h
  ·obtain ⟨j,s,rfl⟩:=Zfb hz h rfl;exact .fz i th x f j s
  ·obtain ⟨j,s,n,l,rfl,hn,hl⟩:=Zdq hz h rfl;exact .fs i th x f j s n l
 rw[if_neg h9] at h;by_cases h11:t.kind=11
 ·rw[if_pos (.inl h11)] at h;obtain⟨i,th,p,rfl,hp⟩:=u9 hs h11 rfl;simp only[Tm.arg,Tm.args_mk,List.getD_cons_zero,beq_iff_eq] at h;obtain⟨j,s,x,y,rfl,hx,hy⟩:=Zdq hp h rfl;exact .p1 i th j s x y
 by_cases h12:t.kind=12
 ·rw[if_pos (.inr h12)] at h;obtain⟨i,th,p,rfl,hp⟩:=u9 hs h12 rfl;simp only[Tm.arg,Tm.args_mk,List.getD_cons_zero,beq_iff_eq] at h;obtain⟨j,s,x,y,rfl,hx,hy⟩:=Zdq hp h rfl;exact .p2 i th j s x y
 grind
theorem Zdu{f x:Tm}(hf:f.shape=true)(hx:x.shape=true):(apT f x).shape=true:=by
 simp[apT,Tm.shape,Tm.shapes,Tm.head,arK,we,Ty.isNo,hf,hx]
theorem Zgr{t:Tm}(hs:t.shape=true)(h:vg t=true):(Yiu t).shape=true:=by
 have hv:=Zhq hs h;have hargs:=zd hs;generalize Yiu t=u at hv;cases hv with
 |beta i th j s b a=>
  have h1:=zd (hargs (.mk 2 j s [b]) (by simp)) b (by simp);exact Zgs 0 (hargs a (by simp)) h1 (Int.le_refl _) (Int.le_refl _) fun p hp=>wv b 0 p hp
 |rz=>simp_all
 |fz=>simp_all
 |rs i th x f j s n=>
  have h1:=zd (hargs (.mk 5 j s [n]) (by simp)) n (by simp);have hx:=hargs x (by simp);have hf:=hargs f (by simp);have hh:th.ok=true:=by rw[Tm.shape_eq,Bool.and_eq_true] at hs;have:=hs.1;simp[Tm.head,we] at this;grind
  refine Zdu (Zdu hf h1) ?_;simp[Tm.shape,Tm.shapes,Tm.head,arK,we,hf,hx,h1,hh]
 |fs i th x f j s n l=>
  have h1:=zd (hargs (.mk 8 j s [n,l]) (by simp)) n (by simp);have h2:=zd (hargs (.mk 8 j s [n,l]) (by simp)) l (by simp);have hx:=hargs x (by simp);have hf:=hargs f (by simp);have hh:th.ok=true:=by rw[Tm.shape_eq,Bool.and_eq_true] at hs;have:=hs.1;simp[Tm.head,we] at this;grind
  refine Zdu (Zdu (Zdu hf h1) h2) ?_;simp[Tm.shape,Tm.shapes,Tm.head,arK,we,hf,hx,h2,hh]
 |p1 i th j s _ y=>exact zd (hargs (.mk 10 j s [u,y]) (by simp)) u (by simp)
 |p2 i th j s x _=>exact zd (hargs (.mk 10 j s [x,u]) (by simp)) u (by simp)
theorem Yb1{C:Int}(hC:0<=C){t u:Tm}(hs:t.shape=true)(h:RV t u)(hf:∀p∈t.vars 0,p.1-p.2<=C):∀p∈u.vars 0,p.1-p.2<=C:=by
 have hargs:=zd hs;cases h with
 |beta i th j s b a=>
  have hb:=zd (hargs (.mk 2 j s [b]) (by simp)) b (by simp);have ha:=hargs a (by simp);intro p hp;rw[Zmp _ _ _ hb,List.mem_flatMap] at hp;obtain⟨q,hq,hp⟩:=hp;have hq2:=wv b 0 q hq;have hfb:q.1-(q.2+1)<=C:=by
   refine hf (q.1,q.2+1) ?_;have e:b.vars 1=(b.vars 0).map fun p=>(p.1,p.2+1):=by have:=vw b 0 1;grind
   have hm:(q.1,q.2+1)∈b.vars 1:=by grind
   simp[Tm.vars,Tm.varss,up]
   grind
  rw[vn] at hp;by_cases h0:q.1-q.2=0
  ·rw[if_pos h0] at hp;have e:(a.re (zk 0 (0+q.2)) 0).vars q.2=((a.re (zk 0 q.2) 0).vars 0).map fun p=>(p.1,p.2+q.2):=by have:=vw (a.re (zk 0 (0+q.2)) 0) 0 q.2;grind
   rw[e,Zcv _ _ _ _ ha,List.map_map,List.mem_map] at hp;obtain⟨r,hr,rfl⟩:=hp;have hfa:=hf r (by
    simp only[Tm.vars,Tm.varss,up,List.mem_append]
    grind)
   grind
  ·rw[if_neg h0,Zql] at hp
   grind
 |rz i th x f j s=>intro p hp;refine hf p ?_;simp[Tm.vars,Tm.varss,up,hp]
 |fz i th x f j s=>intro p hp;refine hf p ?_;simp[Tm.vars,Tm.varss,up,hp]
 |rs i th x f j s n=>
  intro p hp;refine hf p ?_;simp[apT,Tm.vars,Tm.varss,up] at hp ⊢
  grind
 |fs i th x f j s n l=>
  intro p hp;refine hf p ?_;simp[apT,Tm.vars,Tm.varss,up] at hp ⊢
  grind
 |p1 i th j s x y=>intro p hp;refine hf p ?_;simp[Tm.vars,Tm.varss,up,hp]
 |p2 i th j s x y=>intro p hp;refine hf p ?_;simp[Tm.vars,Tm.varss,up,hp]
mutual
def nxR(room:Int):Tm->Option (Tm×Bool)
 | .mk k i h xs=>if vg (.mk k i h xs)=true then some (if Zf4 (.mk k i h xs)>room then(noTm,false) else(Yiu (.mk k i h xs),true)) else(Zp9 room xs).map fun p=>(.mk k i h p.1,p.2)
def Zp9(room:Int):List Tm->Option (List Tm×Bool)
 |[]=>none
 |x::l=>match nxR room x with
  |some p=>some (p.1::l,p.2)
  |none=>(Zp9 room l).map fun q=>(x::q.1,q.2)
end
theorem Zcy(room:Int)(t:Tm):nxR room t=if vg t=true then some (if Zf4 t>room then(noTm,false) else(Yiu t,true)) else(Zp9 room t.args).map fun p=>(.mk t.kind t.index t.ty p.1,p.2):=by
 cases t;rfl
theorem Zx1(room:Int):∀(xs:List Tm) (i:Nat) (hi:i<xs.length) (u:Tm×Bool),nxR room xs[i]=some u->(∀(j:Nat) (hj:j<xs.length),j<i->nxR room xs[j]=none)->Zp9 room xs=some (xs.set i u.1,u.2)
 |[],i,hi,u,h,hn=>by grind
 |x::l,0,hi,u,h,hn=>by
  simp only[List.getElem_cons_zero] at h;simp only[Zp9,h];rfl
 |x::l,i+1,hi,u,h,hn=>by
  have h0:=hn 0 (by simp) (by omega);simp only[List.getElem_cons_zero] at h0;have:=Zx1 room l i (by grind) u (by grind) fun j hj hji=>by grind
  simp only[Zp9,h0,this,Option.map_some];rfl
theorem Zpi(room:Int):∀(xs:List Tm),(∀(j:Nat) (hj:j<xs.length),j<xs.length->nxR room xs[j]=none)->Zp9 room xs=none
 |[],_=>rfl
 |x::l,h=>by
  have h0:=h 0 (by simp) (by simp);simp only[List.getElem_cons_zero] at h0;have:=Zpi room l fun j hj _=>by have:=h (j+1) (by grind) (by grind);grind
  simp only[Zp9,h0,this];rfl
theorem Zfk(room:Int):∀(xs:List Tm) (q:List Tm×Bool),Zp9 room xs=some q->∃(i:Nat) (hi:i<xs.length) (u:Tm),nxR room xs[i]=some (u,q.2)/\q.1=xs.set i u
 |[],q,h=>by simp[Zp9] at h
 |x::l,q,h=>by
  simp only[Zp9] at h;cases hx:nxR room x with
  |some u=>rw[hx] at h;cases h;exact⟨0,by simp,u.1,by grind,rfl⟩
  |none=>
   rw[hx] at h;simp only[Option.map_eq_some_iff] at h;obtain⟨r,h1,rfl⟩:=h;obtain⟨i,hi,u,h2,h3⟩:=Zfk room l r h1;exact⟨i+1,by grind,u,by grind,by grind⟩
theorem Zty(room:Int)(t:Tm):∀u,t.shape=true->nxR room t=some (u,true)->u.shape=true/\(u.size:Int)<=t.size+room/\∀C:Int,0<=C->∀b:Int,0<=b->(∀p∈t.vars b,p.1-p.2<=C)->∀p∈u.vars b,p.1-p.2<=C:=by
 induction t using Tm.ind with
 |h t ih=>
  intro u hs h;rw[Zcy] at h;by_cases hr:vg t=true
  ·rw[if_pos hr] at h;by_cases hg:Zf4 t>room
   ·grind
   ·rw[if_neg hg] at h;simp at h;subst h;refine⟨Zgr hs hr,by simp only[Zf4] at hg;omega,fun C hC b hb hf=> ?_⟩;have e:∀x:Tm,x.vars b=(x.vars 0).map fun p=>(p.1,p.2+b):=fun x=>by have:=vw x 0 b;grind
    rw[e] at hf ⊢;have:=Yb1 (C:=C+b) (by omega) hs (Zhq hs hr) fun p hp=>by have:=hf _ (List.mem_map.2 ⟨p,hp,rfl⟩);omega
    grind
  ·rw[if_neg hr] at h;simp only[Option.map_eq_some_iff] at h;obtain⟨q,h1,h2⟩:=h;obtain⟨i,hi,v,h3,h4⟩:=Zfk room _ _ h1;have h5:q.2=true:=by grind
   have h6:u= .mk t.kind t.index t.ty (t.args.set i v):=by grind
   subst h6;rw[h5] at h3;have hm:=List.getElem_mem hi;obtain⟨i1,i2,i3⟩:=ih _ hm v (zd hs _ hm) h3;refine⟨?_,?_,?_⟩
   ·have:(Tm.mk t.kind t.index t.ty t.args).shape=true:=by simp_all
    exact Zj6 this i1
   ·have:=Zro Tm.size v t.args i hi;rw[Tm.size_eq,Tm.size_eq t];simp only[Tm.args_mk];omega
   ·intro C hC b hb hf p hp;rw[Tm.vars_eq] at hp hf;simp only[Tm.kind_mk,Tm.index_mk,Tm.args_mk,List.mem_append] at hp hf;rcases hp with hp|hp
    ·grind
    ·obtain ⟨y,hy,hp⟩:=List.mem_flatMap.1 hp;have hup:0<=up t.kind b:=by simp only[up];omega
     rcases List.mem_or_eq_of_mem_set hy with hy|hyv
     ·grind
     ·rw[hyv] at hp;exact i3 C hC _ hup (fun p hp=>hf p (.inr (List.mem_flatMap.2 ⟨_,hm,hp⟩))) p hp
def wg(σ:Int->Tm)(i c:Int):Tm:=if i<c then vT i else(σ (i-c)).re (zk 0 c) 0
theorem Yhz(s:Tm)(m n c:Int)(hm:0<=m)(hn:m<=n):(s.re (zk 0 n) 0).re (zk m c) 0=s.re (zk 0 (n+c)) 0:=by
 rw[re_re];refine re_congr s 0 fun p hp=> ?_;simp only[yw,Zb0]
 grind
theorem Zhw(s a:Tm)(c n:Int)(hc:0<=c)(hn:c<=n):(s.re (zk 0 (n+1)) 0).re (xy 0 a) c=s.re (zk 0 n) 0:=by
 rw[Zao _ c,re_re];refine re_congr s 0 fun p hp=> ?_;simp only[yw,Zb0,vn]
 grind
theorem Zy2(s:Tm)(c d:Int):s.re (zk 0 c) d=s.re (zk d c) 0:=by
 rw[Zao _ d];refine re_congr s 0 fun p hp=> ?_;simp only[yw]
 grind
theorem Ycl(σ:Int->Tm)(a:Tm)(b c:Int)(hb:0<=b)(hc:0<=c):(a.re (zk 0 c) 0).re (fun i d=>wg σ i (d+b)) c=(a.re (wg σ) b).re (zk 0 c) 0:=by
 rw[Zao _ c,re_re,Zao (wg σ) b,re_re];refine re_congr a 0 fun p hp=> ?_;have h2:=wv a 0 p hp;simp only[yw,Zb0];by_cases h:p.1<p.2
 ·rw[if_neg (by omega)];simp only[wg];rw[if_pos (by omega),if_pos (by omega),Zb0,yw,if_neg (by omega)]
 ·rw[if_pos (by omega)];simp only[wg];by_cases h3:p.1<p.2+b
  ·rw[if_pos (by omega),if_pos h3,Zb0,yw,if_pos (by omega)]
  ·rw[if_neg (by omega),if_neg h3,Zy2 _ c,Yhz _ _ _ _ h2 (by omega)]
   grind
theorem Ygu(σ:Int->Tm)(t a:Tm)(b:Int)(hb:0<=b):(t.re (xy 0 a) 0).re (wg σ) b=(t.re (wg σ) (b+1)).re (xy 0 (a.re (wg σ) b)) 0:=by
 rw[Zao (wg σ) b,re_re,Zao (wg σ) (b+1),re_re];refine re_congr t 0 fun p hp=> ?_;have h2:=wv t 0 p hp;by_cases h0:p.1-p.2=0
 ·have e:p.1=p.2:=by omega
  have e1:xy 0 a p.1 p.2=a.re (zk 0 p.2) 0:=by rw[vn,if_pos h0,Int.zero_add]
  have e2:wg σ p.1 (p.2+(b+1))=vT p.1:=if_pos (by omega);rw[e1,e2,Zb0,vn,if_pos h0,Int.zero_add,Ycl σ a b p.2 hb h2]
 ·have e1:xy 0 a p.1 p.2=vT (if p.1-p.2>0 then p.1-1 else p.1):=by rw[vn,if_neg h0]
  rw[e1,Zb0];by_cases h:p.1<p.2
  ·rw[if_neg (by omega)];simp only[wg];rw[if_pos (by omega),if_pos (by omega),Zb0,vn,if_neg (by omega),if_neg (by omega)]
  ·rw[if_pos (by omega)];simp only[wg];by_cases h3:p.1<p.2+(b+1)
   ·rw[if_pos (by omega),if_pos h3,Zb0,vn,if_neg h0,if_pos (by omega)]
   ·rw[if_neg (by omega),if_neg h3,show p.2+(b+1)=(p.2+b)+1 by omega,Zhw _ _ _ _ h2 (by omega)]
    grind
def Ydt(a:Tm)(j:Int):Tm:=if j=0 then a else vT (j-1)
def lftS(n j:Int):Tm:=vT (j+n)
theorem Zqb(a t:Tm):t.re (xy 0 a) 0=t.re (wg (Ydt a)) 0:=by
 refine re_congr t 0 fun p hp=> ?_;rw[vn];simp only[wg,Ydt];by_cases h:p.1<p.2
 ·grind
 ·rw[if_neg h];by_cases h0:p.1-p.2=0
  ·grind
  ·rw[if_neg h0,if_neg h0,if_pos (by omega),Zb0,yw,if_pos (by omega)]
   grind
theorem Zz7(n:Int)(hn:0<=n)(t:Tm):t.re (zk 0 n) 0=t.re (wg (lftS n)) 0:=by
 refine re_congr t 0 fun p hp=> ?_;rw[yw];simp only[wg,lftS];by_cases h:p.1<p.2
 ·grind
 ·rw[if_neg h,if_pos (by omega),Zb0,yw,if_pos (by omega)]
  grind
mutual
inductive Par:Tm->Tm->Prop
 |node {k i h xs ys} (hp:Pars xs ys):Par (.mk k i h xs) (.mk k i h ys)
 |beta {i th j s b b' a a'} (hb:Par b b') (ha:Par a a'):Par (.mk 3 i th [.mk 2 j s [b],a]) (b'.re (xy 0 a') 0)
 |rz {i th x x' f j s} (hx:Par x x'):Par (.mk 6 i th [x,f,.mk 4 j s []]) x'
 |rs {i th x x' f f' j s n n'} (hx:Par x x') (hf:Par f f') (hn:Par n n'):Par (.mk 6 i th [x,f,.mk 5 j s [n]]) (apT (apT f' n') (.mk 6 0 th [x',f',n']))
 |fz {i th x x' f j s} (hx:Par x x'):Par (.mk 9 i th [x,f,.mk 7 j s []]) x'
 |fs {i th x x' f f' j s n n' l l'} (hx:Par x x') (hf:Par f f') (hn:Par n n') (hl:Par l l'):Par (.mk 9 i th [x,f,.mk 8 j s [n,l]]) (apT (apT (apT f' n') l') (.mk 9 0 th [x',f',l']))
 |p1 {i th j s x x' y} (hx:Par x x'):Par (.mk 11 i th [.mk 10 j s [x,y]]) x'
 |p2 {i th j s x y y'} (hy:Par y y'):Par (.mk 12 i th [.mk 10 j s [x,y]]) y'
inductive Pars:List Tm->List Tm->Prop
 |nil:Pars [] []
 |cons {x y xs ys} (h:Par x y) (hs:Pars xs ys):Pars (x::xs) (y::ys)
end
theorem Zq5:∀(xs:List Tm),(∀x∈xs,Par x x)->Pars xs xs
 |[],_=> .nil
 |x::l,h=> .cons (h x (by simp)) (Zq5 l fun y hy=>h y (by grind))
theorem Par.refl(t:Tm):Par t t:=by
 induction t using Tm.ind with
 |h t ih=>obtain⟨k,i,h,xs⟩:=t;exact .node (Zq5 xs ih)
theorem Zsk:∀(xs:List Tm) (i:Nat) (hi:i<xs.length) (u:Tm),Par xs[i] u->Pars xs (xs.set i u)
 |x::l,0,_,u,h=> .cons h (Zq5 l fun y _=>Par.refl y)
 |x::l,i+1,hi,u,h=> .cons (Par.refl x) (Zsk l i (by grind) u (by grind))
theorem Yky{t u:Tm}(h:RV t u):Par t u:=by
 cases h with
 |beta=>exact .beta (.refl _) (.refl _)
 |rz=>exact .rz (.refl _)
 |rs=>exact .rs (.refl _) (.refl _) (.refl _)
 |fz=>exact .fz (.refl _)
 |fs=>exact .fs (.refl _) (.refl _) (.refl _) (.refl _)
 |p1=>exact .p1 (.refl _)
 |p2=>exact .p2 (.refl _)
theorem Yjo(room:Int)(t:Tm):∀u,t.shape=true->nxR room t=some (u,true)->Par t u:=by
 induction t using Tm.ind with
 |h t ih=>
  intro u hs h;rw[Zcy] at h;by_cases hr:vg t=true
  ·rw[if_pos hr] at h;by_cases hg:Zf4 t>room
   ·grind
   ·rw[if_neg hg] at h;simp at h;subst h;exact Yky (Zhq hs hr)
  ·rw[if_neg hr] at h;simp only[Option.map_eq_some_iff] at h;obtain⟨q,h1,h2⟩:=h;obtain⟨i,hi,v,h3,h4⟩:=Zfk room _ _ h1;have h5:q.2=true:=by grind
   have h6:u= .mk t.kind t.index t.ty (t.args.set i v):=by grind
   subst h6;rw[h5] at h3;have hm:=List.getElem_mem hi;have:=ih _ hm v (zd hs _ hm) h3;obtain⟨k,j,th,xs⟩:=t;exact .node (Zsk xs i hi v this)
mutual
theorem Zan{σ σ':Int->Tm}(hσ:∀i c,0<=c->Par (wg σ i c) (wg σ' i c)):∀{t u:Tm},Par t u->∀b:Int,0<=b->Par (t.re (wg σ) b) (u.re (wg σ') b)
 |_,_,.node (k:=k) (i:=i) (h:=h) (xs:=xs) (ys:=ys) hp,b,hb=>by
  by_cases h1:k=1
  ·subst h1;rw[Zas (t:= .mk 1 i h xs) rfl,Zas (t:= .mk 1 i h ys) rfl];simp_all
  ·rw[wq (t:= .mk k i h xs) h1,wq (t:= .mk k i h ys) h1];exact .node (Zwy hσ hp (up k b) (by simp only[up];omega))
 |_,_,.beta (b':=b') (a':=a') h1 h2,b,hb=>by
  rw[Ygu σ' b' a' b hb];simp only[Tm.re,Tm.res,up];simp only[show ¬((3:Int)=1) by decide,show ¬((3:Int)=2) by decide,show ¬((2:Int)=1) by decide,if_false,if_true];exact .beta (Zan hσ h1 (b+1) (by omega)) (Zan hσ h2 b hb)
 |_,_,.rz h1,b,hb=>by
  simp only[Tm.re,Tm.res,up];simp only[show ¬((6:Int)=1) by decide,show ¬((6:Int)=2) by decide,show ¬((4:Int)=1) by decide,if_false];exact .rz (Zan hσ h1 b hb)
 |_,_,.rs h1 h2 h3,b,hb=>by
  simp only[apT,Tm.re,Tm.res,up];simp only[show ¬((6:Int)=1) by decide,show ¬((6:Int)=2) by decide,show ¬((5:Int)=1) by decide,show ¬((5:Int)=2) by decide,show ¬((3:Int)=1) by decide,show ¬((3:Int)=2) by decide,if_false];exact .rs (Zan hσ h1 b hb) (Zan hσ h2 b hb) (Zan hσ h3 b hb)
 |_,_,.fz h1,b,hb=>by
  simp only[Tm.re,Tm.res,up];simp only[show ¬((9:Int)=1) by decide,show ¬((9:Int)=2) by decide,show ¬((7:Int)=1) by decide,if_false];exact .fz (Zan hσ h1 b hb)
 |_,_,.fs h1 h2 h3 h4,b,hb=>by
  simp only[apT,Tm.re,Tm.res,up];simp only[show ¬((9:Int)=1) by decide,show ¬((9:Int)=2) by decide,show ¬((8:Int)=1) by decide,show ¬((8:Int)=2) by decide,show ¬((3:Int)=1) by decide,show ¬((3:Int)=2) by decide,if_false];exact .fs (Zan hσ h1 b hb) (Zan hσ h2 b hb) (Zan hσ h3 b hb) (Zan hσ h4 b hb)
 |_,_,.p1 h1,b,hb=>by
  simp only[Tm.re,Tm.res,up];simp only[show ¬((11:Int)=1) by decide,show ¬((11:Int)=2) by decide,show ¬((10:Int)=1) by decide,show ¬((10:Int)=2) by decide,if_false];exact .p1 (Zan hσ h1 b hb)
 |_,_,.p2 h1,b,hb=>by
  simp only[Tm.re,Tm.res,up];simp only[show ¬((12:Int)=1) by decide,show ¬((12:Int)=2) by decide,show ¬((10:Int)=1) by decide,show ¬((10:Int)=2) by decide,if_false];exact .p2 (Zan hσ h1 b hb)
theorem Zwy{σ σ':Int->Tm}(hσ:∀i c,0<=c->Par (wg σ i c) (wg σ' i c)):∀{xs ys:List Tm},Pars xs ys->∀b:Int,0<=b->Pars (xs.map (Tm.re (wg σ) b)) (ys.map (Tm.re (wg σ') b))
 |_,_,.nil,_,_=> .nil
 |_,_,.cons h hs,b,hb=> .cons (Zan hσ h b hb) (Zwy hσ hs b hb)
end
theorem Ycz{t u:Tm}(h:Par t u)(n:Int)(hn:0<=n):Par (t.re (zk 0 n) 0) (u.re (zk 0 n) 0):=by
 rw[Zz7 n hn,Zz7 n hn];refine Zan (fun i c _=> ?_) h 0 (Int.le_refl _);exact Par.refl _
theorem Zwg{b b' a a':Tm}(hb:Par b b')(ha:Par a a'):Par (b.re (xy 0 a) 0) (b'.re (xy 0 a') 0):=by
 rw[Zqb,Zqb];refine Zan (fun i c hc=> ?_) hb 0 (Int.le_refl _);simp only[wg,Ydt];by_cases h:i<c
 ·rw[if_pos h,if_pos h];exact Par.refl _
 ·rw[if_neg h,if_neg h];by_cases h0:i-c=0
  ·rw[if_pos h0,if_pos h0];exact Ycz ha c hc
  ·rw[if_neg h0,if_neg h0];exact Par.refl _
theorem Ztl:∀(xs:List Tm),(∀x∈xs,∃w,∀u,Par x u->Par u w)->∃ws,∀ys,Pars xs ys->Pars ys ws
 |[],_=>⟨[],fun ys h=>by cases h;exact .nil⟩
 |x::l,h=>by
  obtain⟨w,hw⟩:=h x (by simp);obtain⟨ws,hws⟩:=Ztl l fun y hy=>h y (by grind);exact⟨w::ws,fun ys hy=>by cases hy with|cons h1 h2=>exact .cons (hw _ h1) (hws _ h2)⟩
theorem Zjp{f f' x x':Tm}(hf:Par f f')(hx:Par x x'):Par (apT f x) (apT f' x'):= .node (.cons hf (.cons hx .nil))
theorem tri:∀(n:Nat) (t:Tm),t.size<=n->∃w,∀u,Par t u->Par u w:=by
 intro n;induction n with
 |zero=>intro t h;have:=t.size_pos;omega
 |succ n ih=>
 intro t ht;by_cases hr:∃u,RV t u
 ·obtain ⟨x0,hr⟩:=hr;cases hr with
  |beta i th j s b a=>
   simp only[Tm.size,Tm.sizes] at ht;obtain⟨wb,hb⟩:=ih b (by omega);obtain⟨wa,ha⟩:=ih a (by omega);refine⟨wb.re (xy 0 wa) 0,fun u hu=> ?_⟩;cases hu with
   |node hp=>
    cases hp with|cons h1 h2=>cases h2 with|cons h2 h3=>cases h3;cases h1 with|node h4=>cases h4 with|cons h4 h5=>cases h5;exact .beta (hb _ h4) (ha _ h2)
   |beta h1 h2=>exact Zwg (hb _ h1) (ha _ h2)
  |rz i th _ f j s=>
   simp only[Tm.size,Tm.sizes] at ht;obtain⟨wx,hx⟩:=ih x0 (by omega);refine⟨wx,fun u hu=> ?_⟩;cases hu with
   |node hp=>
    cases hp with|cons h1 h2=>cases h2 with|cons h2 h3=>cases h3 with|cons h3 h4=>cases h4;cases h3 with|node h5=>cases h5;exact .rz (hx _ h1)
   |rz h1=>grind
  |rs i th x f j s n=>
   simp only[Tm.size,Tm.sizes] at ht;obtain⟨wx,hx⟩:=ih x (by omega);obtain⟨wf,hf⟩:=ih f (by omega);obtain⟨wn,hn⟩:=ih n (by omega);refine⟨apT (apT wf wn) (.mk 6 0 th [wx,wf,wn]),fun u hu=> ?_⟩;cases hu with
   |node hp=>
    cases hp with|cons h1 h2=>cases h2 with|cons h2 h3=>cases h3 with|cons h3 h4=>cases h4;cases h3 with|node h5=>cases h5 with|cons h5 h6=>cases h6;exact .rs (hx _ h1) (hf _ h2) (hn _ h5)
   |rs h1 h2 h3=>exact Zjp (Zjp (hf _ h2) (hn _ h3)) (.node (.cons (hx _ h1) (.cons (hf _ h2) (.cons (hn _ h3) .nil))))
  |fz i th _ f j s=>
   simp only[Tm.size,Tm.sizes] at ht;obtain⟨wx,hx⟩:=ih x0 (by omega);refine⟨wx,fun u hu=> ?_⟩;cases hu with
   |node hp=>
    cases hp with|cons h1 h2=>cases h2 with|cons h2 h3=>cases h3 with|cons h3 h4=>cases h4;cases h3 with|node h5=>cases h5;exact .fz (hx _ h1)
   |fz h1=>grind
  |fs i th x f j s n l=>
   simp only[Tm.size,Tm.sizes] at ht;obtain⟨wx,hx⟩:=ih x (by omega);obtain⟨wf,hf⟩:=ih f (by omega);obtain⟨wn,hn⟩:=ih n (by omega);obtain⟨wl,hl⟩:=ih l (by omega);refine⟨apT (apT (apT wf wn) wl) (.mk 9 0 th [wx,wf,wl]),fun u hu=> ?_⟩;cases hu with
   |node hp=>
    cases hp with|cons h1 h2=>cases h2 with|cons h2 h3=>cases h3 with|cons h3 h4=>cases h4;cases h3 with|node h5=>cases h5 with|cons h5 h6=>cases h6 with|cons h6 h7=>cases h7;exact .fs (hx _ h1) (hf _ h2) (hn _ h5) (hl _ h6)
   |fs h1 h2 h3 h4=>exact Zjp (Zjp (Zjp (hf _ h2) (hn _ h3)) (hl _ h4)) (.node (.cons (hx _ h1) (.cons (hf _ h2) (.cons (hl _ h4) .nil))))
  |p1 i th j s _ y=>
   simp only[Tm.size,Tm.sizes] at ht;obtain⟨wx,hx⟩:=ih x0 (by omega);refine⟨wx,fun u hu=> ?_⟩;cases hu with
   |node hp=>
    cases hp with|cons h1 h2=>cases h2;cases h1 with|node h5=>cases h5 with|cons h5 h6=>cases h6 with|cons h6 h7=>cases h7;exact .p1 (hx _ h5)
   |p1 h1=>grind
  |p2 i th j s x _=>
   simp only[Tm.size,Tm.sizes] at ht;obtain⟨wx,hx⟩:=ih x0 (by omega);refine⟨wx,fun u hu=> ?_⟩;cases hu with
   |node hp=>
    cases hp with|cons h1 h2=>cases h2;cases h1 with|node h5=>cases h5 with|cons h5 h6=>cases h6 with|cons h6 h7=>cases h7;exact .p2 (hx _ h6)
   |p2 h1=>grind
 ·obtain ⟨k,i,th,xs⟩:=t;have hz:=Tm.size_eq (.mk k i th xs);simp only[Tm.args_mk] at hz;obtain⟨ws,hws⟩:=Ztl xs fun x hx=>ih x (by have:=zc Tm.size hx;omega);refine⟨.mk k i th ws,fun u hu=> ?_⟩;cases hu with
  |node hp=>exact .node (hws _ hp)
  |beta=>exact absurd ⟨_,.beta ..⟩ hr
  |rz=>exact absurd ⟨_,.rz ..⟩ hr
  |rs=>exact absurd ⟨_,.rs ..⟩ hr
  |fz=>exact absurd ⟨_,.fz ..⟩ hr
  |fs=>exact absurd ⟨_,.fs ..⟩ hr
  |p1=>exact absurd ⟨_,.p1 ..⟩ hr
  |p2=>exact absurd ⟨_,.p2 ..⟩ hr
noncomputable def dev(t:Tm):Tm:=Classical.choose (tri _ t (Nat.le_refl _))
theorem Zl3{t u:Tm}(h:Par t u):Par u (dev t):=Classical.choose_spec (tri _ t (Nat.le_refl _)) u h
theorem Ybx{t u:Tm}(h:Par t u):Par (dev t) (dev u):=Zl3 (Zl3 h)
noncomputable def Yed:Nat->Tm->Tm
 |0,t=>t
 |n+1,t=>Yed n (dev t)
theorem Zo4:∀(n:Nat) {t u:Tm},Par t u->Par (Yed n t) (Yed n u)
 |0,_,_,h=>h
 |n+1,_,_,h=>Zo4 n (Ybx h)
theorem Znf:∀(n m:Nat) (t:Tm),Yed (n+m) t=Yed m (Yed n t)
 |0,m,t=>by rw[Nat.zero_add];rfl
 |n+1,m,t=>by rw[show n+1+m=(n+m)+1 by omega];exact Znf n m (dev t)
inductive Pst:Tm->Tm->Prop
 |refl (t:Tm):Pst t t
 |step {t s u:Tm} (h:Par t s) (hs:Pst s u):Pst t u
theorem Pst.trans{t s u:Tm}(h:Pst t s):Pst s u->Pst t u:=by
 induction h with
 |refl=>simp
 |step h1 _ ih=>exact fun h=> .step h1 (ih h)
theorem Pst.one{t u:Tm}(h:Par t u):Pst t u:= .step h (.refl _)
theorem Zyf{t u:Tm}(h:Pst t u):∃n,Pst u (Yed n t):=by
 induction h with
 |refl t=>exact⟨0,.refl _⟩
 |step h1 _ ih=>
  obtain⟨n,hn⟩:=ih;exact⟨n+1,hn.trans (.one (Zo4 n (Zl3 h1)))⟩
def nf(t:Tm):Prop:=∀u,Par t u->u=t
theorem Ye8{t u:Tm}(ht:nf t)(h:Pst t u):u=t:=by
 induction h with
 |refl=>rfl
 |step h1 _ ih=>have:=ht _ h1;grind
theorem Zyb{t:Tm}(h:nf t):∀n,Yed n t=t
 |0=>rfl
 |n+1=>by
  have:dev t=t:=h _ (Zl3 (.refl t));show Yed n (dev t)=t;rw[this];exact Zyb h n
theorem Zyc{t u v:Tm}(hu:nf u)(hv:nf v)(h:Pst t u)(h':Pst t v):u=v:=by
 obtain⟨n,hn⟩:=Zyf h;obtain⟨m,hm⟩:=Zyf h';have e1:=Ye8 hu hn;have e2:=Ye8 hv hm;rcases Nat.le_total n m with hnm|hnm
 ·have:=Znf n (m-n) t;rw[show n+(m-n)=m by omega,e1,e2,Zyb hu] at this
  grind
 ·have:=Znf m (n-m) t;rw[show m+(n-m)=n by omega,e1,e2,Zyb hv] at this;omega
mutual
theorem Yeh{room:Int}:∀{t u:Tm},Par t u->nxR room t=none->u=t
 |_,_,.node (k:=k) (i:=i) (h:=h) (xs:=xs) (ys:=ys) hp,hn=>by
  rw[Zcy] at hn;by_cases hr:vg (.mk k i h xs)=true
  ·grind
  ·rw[if_neg hr] at hn;simp only[Option.map_eq_none_iff,Tm.args_mk] at hn;rw[Yel hp hn]
 |_,_,.beta ..,hn=>by rw[Zcy] at hn;simp[vg,Tm.arg] at hn
 |_,_,.rz ..,hn=>by rw[Zcy] at hn;simp[vg,Tm.arg] at hn
 |_,_,.rs ..,hn=>by rw[Zcy] at hn;simp[vg,Tm.arg] at hn
 |_,_,.fz ..,hn=>by rw[Zcy] at hn;simp[vg,Tm.arg] at hn
 |_,_,.fs ..,hn=>by rw[Zcy] at hn;simp[vg,Tm.arg] at hn
 |_,_,.p1 ..,hn=>by rw[Zcy] at hn;simp[vg,Tm.arg] at hn
 |_,_,.p2 ..,hn=>by rw[Zcy] at hn;simp[vg,Tm.arg] at hn
theorem Yel{room:Int}:∀{xs ys:List Tm},Pars xs ys->Zp9 room xs=none->ys=xs
 |_,_,.nil,_=>rfl
 |_,_,.cons (x:=x) (xs:=xs) h hs,hn=>by
  simp only[Zp9] at hn;cases hx:nxR room x with
  |some p=>grind
  |none=>
   rw[hx] at hn;simp only[Option.map_eq_none_iff] at hn;rw[Yeh h hx,Yel hs hn]
end
def nrm:Nat->Tm->Nat->Tm×Int×Int
 |0,t,n=>match nxR (4096-t.size) t with
  |none=>(t,n,0)
  |some _=>(noTm,0,5)
 |k+1,t,n=>match nxR (4096-t.size) t with
  |none=>(t,n,0)
  |some (x,true)=>nrm k x (n+1)
  |some (_,false)=>(noTm,0,4)
def xr(t:Tm)(steps:Int):Tm×Int×Int:=
 if t.err≠0 then(noTm,0,t.err) else if ¬(0<=steps/\steps<=65536)\/t.near=false then(noTm,0,1) else nrm steps.toNat t 0
def Zka(a b:Tm)(steps:Int):Int:=
 if a.err≠0 then a.err else if b.err≠0 then b.err else if a=b then 0
 else if(xr a steps).2.2≠0 then(xr a steps).2.2 else if(xr b steps).2.2≠0 then(xr b steps).2.2
 else if(xr a steps).1=(xr b steps).1 then 0 else 11
theorem Zzx{t u:Tm}(he:t.err=0)(h:nxR (4096-t.size) t=some (u,true)):u.err=0:=by
 obtain⟨h1,h2⟩:=ut he;obtain⟨h3,h4,_⟩:=Zty _ t u h1 h;exact(Tm.err_iff _).2 ⟨h3,by omega⟩
theorem Yah:∀(k:Nat) (t:Tm) (n:Nat),t.err=0->(nrm k t n).2.2=0->Pst t (nrm k t n).1/\nf (nrm k t n).1/\(nrm k t n).1.err=0
 |0,t,n,he,h=>by
  simp only[nrm] at h ⊢;cases hx:nxR (4096-t.size) t with
  |none=>rw[hx] at h;exact⟨.refl _,fun u hu=>Yeh hu hx,he⟩
  |some p=>grind
 |k+1,t,n,he,h=>by
  simp only[nrm] at h ⊢;cases hx:nxR (4096-t.size) t with
  |none=>rw[hx] at h;exact⟨.refl _,fun u hu=>Yeh hu hx,he⟩
  |some p=>
   obtain⟨x,f⟩:=p;rw[hx] at h;cases f with
   |false=>cases h
   |true=>
    obtain⟨i1,i2,i3⟩:=Yah k x (n+1) (Zzx he hx) h;exact⟨.step (Yjo _ t x (ut he).1 hx) i1,i2,i3⟩
theorem Zpn(t:Tm)(steps:Int)(h:(xr t steps).2.2=0):(xr t steps).1.full<274877906944:=by
 unfold xr at h ⊢;by_cases he:t.err=0
 ·rw[if_neg (by omega)] at h ⊢;by_cases hc:¬(0<=steps/\steps<=65536)\/t.near=false
  ·grind
  ·rw[if_neg hc] at h ⊢;obtain⟨_,_,h3⟩:=Yah _ _ _ he h;have:=yt h3;omega
 grind
def Yay:List Tm->List Tm->Int
 |x::l,y::m=>if Zka x y 1000≠0 then Zka x y 1000 else Yay l m
 |_,_=>0
mutual
def mtF:Fm->Fm->Int
 | .mk k ty ts xs,.mk k' ty' ts' xs'=>if k=k'/\ty=ty' then(if Yay ts ts'≠0 then Yay ts ts' else Yey xs xs') else 11
def Yey:List Fm->List Fm->Int
 |x::l,y::m=>if mtF x y≠0 then mtF x y else Yey l m
 |_,_=>0
end
theorem Ylm(f g:Fm):mtF f g=if f.kind=g.kind/\f.ty=g.ty then(if Yay f.terms g.terms≠0 then Yay f.terms g.terms else Yey f.args g.args) else 11:=by
 cases f;cases g;rfl
theorem Zwc:∀(l m:List Tm) (i:Nat) (hi:i<l.length) (hj:i<m.length),(∀j (h1:j<l.length) (h2:j<m.length),j<i->Zka l[j] m[j] 1000=0)->Zka l[i] m[i] 1000≠0->Yay l m=Zka l[i] m[i] 1000
 |x::l,y::m,0,_,_,_,h=>by simp only[List.getElem_cons_zero] at h ⊢;simp only[Yay];omega
 |x::l,y::m,i+1,hi,hj,hn,h=>by
  have h0:=hn 0 (by simp) (by simp) (by omega);simp only[Yay];rw[if_neg (by grind)];exact Zwc l m i (by grind) (by grind) (fun j h1 h2 hji=>by grind) (by grind)
theorem Zpu:∀(l m:List Tm),(∀j (h1:j<l.length) (h2:j<m.length),Zka l[j] m[j] 1000=0)->Yay l m=0
 |[],_,_=>by rfl
 |_::_,[],_=>by rfl
 |x::l,y::m,hn=>by
  have h0:=hn 0 (by simp) (by simp);simp only[Yay];rw[if_neg (by grind)];exact Zpu l m fun j h1 h2=>by have:=hn (j+1) (by grind) (by grind);grind
theorem Zxv:∀(l m:List Fm) (i:Nat) (hi:i<l.length) (hj:i<m.length),(∀j (h1:j<l.length) (h2:j<m.length),j<i->mtF l[j] m[j]=0)->mtF l[i] m[i]≠0->Yey l m=mtF l[i] m[i]
 |x::l,y::m,0,_,_,_,h=>by simp only[List.getElem_cons_zero] at h ⊢;simp only[Yey];omega
 |x::l,y::m,i+1,hi,hj,hn,h=>by
  have h0:=hn 0 (by simp) (by simp) (by omega);simp only[Yey];rw[if_neg (by grind)];exact Zxv l m i (by grind) (by grind) (fun j h1 h2 hji=>by grind) (by grind)
theorem Zpj:∀(l m:List Fm),(∀j (h1:j<l.length) (h2:j<m.length),mtF l[j] m[j]=0)->Yey l m=0
 |[],_,_=>by rfl
 |_::_,[],_=>by rfl
 |x::l,y::m,hn=>by
  have h0:=hn 0 (by simp) (by simp);simp only[Yey];rw[if_neg (by grind)];exact Zpj l m fun j h1 h2=>by have:=hn (j+1) (by grind) (by grind);grind
def Ybi(f g:Fm):Int:=if f.err≠0 then f.err else if g.err≠0 then g.err else mtF f g
@[simp] theorem Pf.kind_mk(k i:Int)(h:Ty)(ts:List Tm)(fs:List Fm)(as:List Pf):(Pf.mk k i h ts fs as).kind=k:=rfl
@[simp] theorem Pf.index_mk(k i:Int)(h:Ty)(ts:List Tm)(fs:List Fm)(as:List Pf):(Pf.mk k i h ts fs as).index=i:=rfl
@[simp] theorem Pf.ty_mk(k i:Int)(h:Ty)(ts:List Tm)(fs:List Fm)(as:List Pf):(Pf.mk k i h ts fs as).ty=h:=rfl
@[simp] theorem Pf.terms_mk(k i:Int)(h:Ty)(ts:List Tm)(fs:List Fm)(as:List Pf):(Pf.mk k i h ts fs as).terms=ts:=rfl
@[simp] theorem Pf.forms_mk(k i:Int)(h:Ty)(ts:List Tm)(fs:List Fm)(as:List Pf):(Pf.mk k i h ts fs as).forms=fs:=rfl
@[simp] theorem Pf.args_mk(k i:Int)(h:Ty)(ts:List Tm)(fs:List Fm)(as:List Pf):(Pf.mk k i h ts fs as).args=as:=rfl
structure Nd where
 terms:Nat
 forms:Nat
 args:Nat
 index:Bool
 typ:Bool
def noNd:Nd:=⟨0,0,0,false,false⟩
def ndP(k:Int):Option Nd:=
 if k=1\/k=2 then some ⟨0,0,0,true,false⟩
 else if k=3\/k=7 then some ⟨0,0,2,false,false⟩
 else if k=4\/k=5\/k=20 then some ⟨0,0,1,false,false⟩
 else if k=6 then some ⟨0,1,1,false,false⟩
 else if k=8\/k=12 then some ⟨0,0,1,false,true⟩
 else if k=9\/k=13 then some ⟨1,0,1,false,false⟩
 else if k=10\/k=14 then some ⟨1,1,1,false,false⟩
 else if k=11\/k=15 then some ⟨0,0,2,false,false⟩
 else if k=16\/k=17 then some ⟨1,1,2,false,false⟩
 else if k=18 then some ⟨1,0,0,false,false⟩
 else if k=19 then some ⟨0,1,2,false,false⟩ else none
def Nd.view(n:Nd):List V:=[.i n.terms,.i n.forms,.i n.args,.bool n.index,.bool n.typ]
def Pf.head(p:Pf):Bool:=match ndP p.kind with
 |none=>false
 |some n=>p.terms.length==n.terms&&p.forms.length==n.forms&&p.args.length==n.args&&decide (0<=p.index)&&(n.index||p.index==0)&&(if n.typ=true then p.ty.ok else p.ty.isNo)
mutual
def Pf.shape:Pf->Bool
 | .mk k i h ts fs as=>Pf.head (.mk k i h ts fs as)&&ts.all Tm.shape&&fs.all Fm.shape&&Pf.shapes as
def Pf.shapes:List Pf->Bool
 |[]=>true
 |f::l=>f.shape&&Pf.shapes l
end
mutual
def Pf.size:Pf->Nat
 | .mk _ _ _ ts fs as=>1+(ts.map Tm.size).sum+(fs.map Fm.size).sum+Pf.sizes as
def Pf.sizes:List Pf->Nat
 |[]=>0
 |f::l=>f.size+Pf.sizes l
end
mutual
def Pf.full:Pf->Nat
 | .mk _ _ h ts fs as=>1+h.size+(ts.map Tm.full).sum+(fs.map Fm.full).sum+Pf.fulls as
def Pf.fulls:List Pf->Nat
 |[]=>0
 |f::l=>f.full+Pf.fulls l
end
mutual
def Pf.small:Pf->Bool
 | .mk _ _ _ ts fs as=>ts.all (fun t=>decide (t.size<=4096))&&fs.all (fun f=>decide (f.size<=4096))&&Pf.smalls as
def Pf.smalls:List Pf->Bool
 |[]=>true
 |f::l=>f.small&&Pf.smalls l
end
theorem Pf.shapes_eq:∀l:List Pf,Pf.shapes l=l.all Pf.shape
 |[]=>rfl
 |f::l=>by rw[Pf.shapes,Pf.shapes_eq l];rfl
theorem Pf.sizes_eq:∀l:List Pf,Pf.sizes l=(l.map Pf.size).sum
 |[]=>rfl
 |f::l=>by rw[Pf.sizes,Pf.sizes_eq l];rfl
theorem Pf.fulls_eq:∀l:List Pf,Pf.fulls l=(l.map Pf.full).sum
 |[]=>rfl
 |f::l=>by rw[Pf.fulls,Pf.fulls_eq l];rfl
theorem Pf.smalls_eq:∀l:List Pf,Pf.smalls l=l.all Pf.small
 |[]=>rfl
 |f::l=>by rw[Pf.smalls,Pf.smalls_eq l];rfl
theorem Pf.shape_eq(p:Pf):p.shape=(p.head&&p.terms.all Tm.shape&&p.forms.all Fm.shape&&p.args.all Pf.shape):=by cases p;simp only[Pf.shape,Pf.shapes_eq];rfl
theorem Pf.size_eq(p:Pf):p.size=1+(p.terms.map Tm.size).sum+(p.forms.map Fm.size).sum+(p.args.map Pf.size).sum:=by cases p;simp only[Pf.size,Pf.sizes_eq];rfl
theorem Pf.full_eq(p:Pf):p.full=1+p.ty.size+(p.terms.map Tm.full).sum+(p.forms.map Fm.full).sum+(p.args.map Pf.full).sum:=by cases p;simp only[Pf.full,Pf.fulls_eq];rfl
theorem Pf.small_eq(p:Pf):p.small=(p.terms.all (fun t=>decide (t.size<=4096))&&p.forms.all (fun f=>decide (f.size<=4096))&&p.args.all Pf.small):=by cases p;simp only[Pf.small,Pf.smalls_eq];rfl
theorem Pf.full_pos(p:Pf):1<=p.full:=by rw[Pf.full_eq];omega
theorem Pf.size_pos(p:Pf):1<=p.size:=by rw[Pf.size_eq];omega
theorem Pf.ind{P:Pf->Prop}(h:∀f,(∀x∈f.args,P x)->P f)(f:Pf):P f:=by
 have:∀n,∀f:Pf,f.full<=n->P f:=by
  intro n;induction n with
  |zero=>intro f h;have:=f.full_pos;omega
  |succ n ih=>
   intro f hf;refine h f fun x hx=>ih x ?_;have:=zc Pf.full hx;have:=f.full_eq;omega
 exact this _ f (Nat.le_refl _)
theorem Pf.size_le_full(p:Pf):p.size<=p.full:=by
 induction p using Pf.ind with
 |h p ih=>
  rw[p.size_eq,p.full_eq];have h1:=xv (f:=Pf.size) (g:=Pf.full) p.args ih;have h2:=xv (f:=Tm.size) (g:=Tm.full) p.terms fun x _=>x.size_le_full;have h3:=xv (f:=Fm.size) (g:=Fm.full) p.forms fun x _=>x.size_le_full;omega
def Pf.err(p:Pf):Int:=if p.shape=false then 2 else if p.small=false\/p.size>16384 then 4 else 0
theorem Pf.err_iff(p:Pf):p.err=0↔p.shape=true/\p.small=true/\p.size<=16384:=by
 unfold Pf.err
 grind
def Zvu:Pf:= .mk 0 0 (.mk 0 []) [] [] []
def y8(t:Tm):Pf:= .mk 18 0 (.mk 0 []) [t] [] []
theorem Yad{f g:Fm}(hf:f.shape=true)(hg:g.shape=true)(hk:f.kind=g.kind):f.terms.length=g.terms.length/\f.args.length=g.args.length:=by
 rw[Fm.shape_eq,Bool.and_eq_true,Bool.and_eq_true] at hf hg;have h1:=hf.1.1;have h2:=hg.1.1;unfold Fm.head at h1 h2
 grind
structure RK (c:EC) where
 pre:c.sem->List Yn
 args:c.sem->List c.sem
 set:c.sem->List c.sem->c.sem
 sz:c.sem->Nat
 yn:c.sem->List Yn
 yn_eq:∀x,yn x=pre x++[.row c (args x).length ((args x).flatMap yn)]
 pre_len:∀x,(pre x).length+1=c.cells
 er:∀x,Ers (yn x) (c.view x)
 view_set:∀x xs,c.view (set x xs)=(c.view x).take (c.cells-1)++[.slice .any (.t c xs)]
 sz_set:∀x xs,sz (set x xs)+((args x).map sz).sum=sz x+(xs.map sz).sum
 sz_lt:∀x,∀a∈args x,sz a<sz x
variable {c:EC}
def RK.at_(KD:RK c)(x:c.sem)(k:Nat)(s:c.sem):c.sem:=KD.set x ((KD.args x).take k++s::(KD.args x).drop (k+1))
theorem RK.yn_len(KD:RK c)(x:c.sem):(KD.yn x).length=c.cells:=by
 have:=KD.pre_len x;rw[KD.yn_eq,List.length_append];omega
theorem RK.yns_len(KD:RK c):∀l:List c.sem,(l.flatMap KD.yn).length=l.length*c.cells
 |[]=>by simp
 |x::l=>by rw[List.flatMap_cons,List.length_append,KD.yn_len,KD.yns_len l,List.length_cons,Nat.add_mul];omega
theorem RK.ers(KD:RK c):∀l:List c.sem,Ers (l.flatMap KD.yn) (l.flatMap c.view)
 |[]=> .nil
 |x::l=>by rw[List.flatMap_cons,List.flatMap_cons];exact(KD.er x).app (KD.ers l)
theorem Yd6{α:Type}(l:List α){k:Nat}(hk:k<l.length):l=l.take k++l[k]::l.drop (k+1):=by
 simp
theorem YM.row_inv{s:Prop}{c:EC}{n:Nat}{cells:List Yn}{v:V}{y:Ys}(h:YM s (.row c n cells) v y)(hn:0<n):
 ∃b room cap cs y2,v= .rs b n cap/\y=(b,room,cs)::y2/\(s->room=cap*c.cells)/\n<=cap/\cells.length=n*c.cells/\YMs s cells cs y2:=by
 cases h<;>grind
theorem Zog(p q:Nat×Nat×List V)(l1 l2 l3:Ys):(q::((p::(l1++l2))++l3)).Perm (p::(l1++(q::(l2++l3)))):=by
 rw[List.cons_append,List.append_assoc];exact(List.Perm.swap _ _ _).trans (List.perm_middle.symm.cons _)
theorem Zsf(l1 l2 l3:Ys):(l1++(l2++l3)).Perm (l2++(l1++l3)):=by
 rw[<-List.append_assoc,<-List.append_assoc];exact List.perm_append_comm.append_right _
theorem RK.desc(KD:RK c){x:c.sem}{cs:List V}{yx:Ys}(h:YMs True (KD.yn x) cs yx){k:Nat}(hk:k<(KD.args x).length):
 ∃cs0 b cap csA csL csB yL yc,cs=cs0++[.rs b (KD.args x).length cap]/\cs0.length+1=c.cells/\csA.length=k*c.cells/\csL.length=c.cells/\YMs True (KD.yn (KD.args x)[k]) csL yL/\
  yx.Perm ((b,cap*c.cells,csA++csL++csB)::(yL++yc))/\((∀v∈csA,V.free v)/\∀v∈csB,V.free v)/\
  ∀csL' L' yL' s',csL'.length=c.cells->YMs False L' csL' yL'->Ers L' (c.view s')->∃X yX,YMs False X cs yX/\Ers X (c.view (KD.at_ x k s'))/\
   yX.Perm ((b,cap*c.cells,csA++csL'++csB)::(yL'++yc)):=by
 have hpl:=KD.pre_len x;rw[KD.yn_eq] at h;obtain⟨cs0,csr,y0,yr,rfl,rfl,h1,h2⟩:=h.split;obtain⟨v,vs,y1,y2,rfl,rfl,h3,h4⟩:=h2.inv;cases h4;have hmid:(KD.args x).flatMap KD.yn=((KD.args x).take k).flatMap KD.yn++(KD.yn (KD.args x)[k]++((KD.args x).drop (k+1)).flatMap KD.yn):=by
  conv=>lhs;rw[Yd6 (KD.args x) hk]
  grind
 obtain⟨b,room,cap,cs2,ys,rfl,rfl,hroom,hcap,hl,h5⟩:=h3.row_inv (by omega)
 ·obtain rfl:=hroom trivial;rw[hmid] at h5;obtain⟨csA,csR,yA,yR,rfl,rfl,h6,h7⟩:=h5.split;obtain⟨csL,csB,yL,yB,rfl,rfl,h8,h9⟩:=h7.split;have lA:csA.length=k*c.cells:=by rw[h6.len,KD.yns_len,List.length_take];grind
  have lL:csL.length=c.cells:=by rw[h8.len,KD.yn_len]
  refine⟨cs0,b,cap,csA,csL,csB,yL,y0++yA++yB,rfl,by rw[h1.len];omega,lA,lL,h8,?_,⟨h6.free,h9.free⟩,?_⟩
  ·rw[List.append_nil,List.append_assoc csA];refine List.perm_middle.trans (List.Perm.cons _ ?_);rw[<-List.append_assoc y0 yA];exact Zsf _ _ _
  ·intro csL' L' yL' s' q1 q2 q3;have lL':L'.length=c.cells:=by rw[<-q2.len];exact q1
   have hrow:YM False (.row c (KD.args x).length (((KD.args x).take k).flatMap KD.yn++(L'++((KD.args x).drop (k+1)).flatMap KD.yn))) (.rs b (KD.args x).length cap) ((b,cap*c.cells,csA++(csL'++csB))::(yA++(yL'++yB))):=by
    refine .row c _ _ b _ cap _ _ (fun h=>h.elim) hcap (by omega) ?_ ((h6.weak (fun h=>h.elim)).app (q2.app (h9.weak (fun h=>h.elim))));have e1:=hl;rw[hmid] at e1;simp only[List.length_append,lL',KD.yn_len] at e1 ⊢;exact e1
   have hx':Ers (((KD.args x).take k).flatMap KD.yn++(L'++((KD.args x).drop (k+1)).flatMap KD.yn)) (((KD.args x).take k++s'::(KD.args x).drop (k+1)).flatMap c.view):=by
    rw[List.flatMap_append,List.flatMap_cons];exact(KD.ers _).app (q3.app (KD.ers _))
   obtain⟨d0,d1,hd,e0,e1⟩:=(KD.yn_eq x▸KD.er x:Ers (KD.pre x++[.row c (KD.args x).length ((KD.args x).flatMap KD.yn)]) (c.view x)).split;have hd0:d0=(c.view x).take (c.cells-1):=by
    rw[hd,List.take_append_of_le_length (by rw[e0.len];omega),List.take_of_length_le (by rw[e0.len];omega)]
   refine⟨_,_,(h1.weak (fun h=>h.elim)).app (.cons hrow .nil),?_,?_⟩
   ·rw[RK.at_,KD.view_set,<-hd0];exact e0.app (.cons (.row c _ _ _ (by grind) hx') .nil)
   ·rw[List.append_nil,List.append_assoc csA];refine List.perm_middle.trans (List.Perm.cons _ ?_);rw[<-List.append_assoc y0 yA];exact Zsf _ _ _
def Foc(KD:RK c)(y:Ys)(rc:List V)(F:c.sem->c.sem)(b off:Nat)(s:c.sem)(csL:List V)(yL:Ys):Prop:=
 ∃cap csA csB yc,csA.length=off/\csL.length=c.cells/\YMs True (KD.yn s) csL yL/\y.Perm ((b,cap*c.cells,csA++csL++csB)::(yL++yc))/\((∀v∈csA,V.free v)/\∀v∈csB,V.free v)/\
  ∀csL' L' yL' s',csL'.length=c.cells->YMs False L' csL' yL'->Ers L' (c.view s')->∃X yX,YMs False X rc yX/\Ers X (c.view (F s'))/\
   yX.Perm ((b,cap*c.cells,csA++csL'++csB)::(yL'++yc))
theorem Foc.next{KD:RK c}{y yL:Ys}{rc csL:List V}{F:c.sem->c.sem}{s:c.sem}{b off:Nat}(h:Foc KD y rc F b off s csL yL){k:Nat}(hk:k<(KD.args s).length):
 ∃cs0 b2 cap csL2 yL2,csL=cs0++[.rs b2 (KD.args s).length cap]/\cs0.length+1=c.cells/\Foc KD y rc (fun x=>F (KD.at_ s k x)) b2 (k*c.cells) (KD.args s)[k] csL2 yL2:=by
 obtain⟨cap,csA,csB,yc,q1,q2,q3,q4,_,q5⟩:=h;obtain⟨cs0,b2,cap2,csA2,csL2,csB2,yL2,yc2,h1,h2,h3,h4,h5,h6,hfr,h7⟩:=KD.desc q3 hk;refine⟨cs0,b2,cap2,csL2,yL2,h1,h2,⟨cap2,csA2,csB2,(b,cap*c.cells,csA++csL++csB)::(yc2++yc),h3,h4,h5,?_,hfr,?_⟩⟩
 ·refine q4.trans ?_;exact((h6.append_right yc).cons _).trans (Zog _ _ _ _ _)
 ·intro csL' L' yL' s' w1 w2 w3;obtain⟨X,yX,e1,e2,e4⟩:=h7 csL' L' yL' s' w1 w2 w3;obtain⟨X2,yX2,e5,e6,e8⟩:=q5 csL X yX (KD.at_ s k s') q2 e1 e2;refine⟨X2,yX2,e5,e6,e8.trans ?_⟩;exact((e4.append_right yc).cons _).trans (Zog _ _ _ _ _)
def Yg6(c:EC)(xs:List c.sem):Yn:= .row c xs.length ((xs.flatMap c.view).map .dat)
theorem Yde(c:EC)(xs:List c.sem):(xs.flatMap c.view).all V.isD=true:=by
 rw[List.all_flatMap];exact List.all_eq_true.2 fun x _=>Zm8 c x
theorem Zr9(c:EC)(xs:List c.sem):Er (Yg6 c xs) (.s c xs):= .row c _ _ xs rfl (Zwa _ (Yde c xs))
mutual
def Fm.yn:Fm->List Yn| .mk k t ts as=>[.dat (.i k),.dat (.i t.kind),.dat (.s .ty t.args),Yg6 .tm ts,.row .fm as.length (Fm.yns as)]
def Fm.yns:List Fm->List Yn|[]=>[]|a::l=>a.yn++Fm.yns l
end
theorem Fm.yn_len:∀t:Fm,t.yn.length=5| .mk _ _ _ _=>rfl
theorem Fm.yns_len:∀l:List Fm,(Fm.yns l).length=l.length*5
 |[]=>rfl
 |a::l=>by rw[Fm.yns,List.length_append,Fm.yn_len,Fm.yns_len l,List.length_cons];omega
mutual
theorem Fm.er:∀t:Fm,Ers t.yn t.view
 | .mk k t ts as=> .cons (.dat _ rfl) (.cons (.dat _ rfl) (.cons (.dat _ rfl) (.cons (Zr9 .tm ts) (.cons (.row .fm _ _ as rfl (Fm.ers as)) .nil))))
theorem Fm.ers:∀l:List Fm,Ers (Fm.yns l) (l.flatMap (EC.view .fm))
 |[]=> .nil
 |a::l=>by rw[Fm.yns,List.flatMap_cons];exact(Fm.er a).app (Fm.ers l)
end
theorem YM.is_raw{s:Prop}{c:EC}{n:Nat}{cells:List Yn}{v:V}{y:Ys}(h:YM s (.row c n cells) v y):∃u,v= .raw u:=by
 cases h<;>simp_all
theorem YMs.fm{s:Prop}{f:Fm}{vs:List V}{y:Ys}(h:YMs s f.yn vs y):∃tv sv y1 y2,vs=[.i f.kind,.i f.ty.kind,.s .ty f.ty.args,.raw tv,.raw sv]/\y=y1++y2/\YM s (Yg6 .tm f.terms) (.raw tv) y1/\YM s (.row .fm f.args.length (Fm.yns f.args)) (.raw sv) y2:=by
 obtain⟨k,t,ts,as⟩:=f;have h:YMs s [.dat (.i k),.dat (.i t.kind),.dat (.s .ty t.args),Yg6 .tm ts,.row .fm as.length (Fm.yns as)] vs y:=by unfold Fm.yn at h;exact h
 show ∃tv sv y1 y2,vs=[.i k,.i t.kind,.s .ty t.args,.raw tv,.raw sv]/\y=y1++y2/\YM s (Yg6 .tm ts) (.raw tv) y1/\YM s (.row .fm as.length (Fm.yns as)) (.raw sv) y2;generalize as.length=n at h ⊢;generalize Fm.yns as=cells at h ⊢;obtain⟨_,_,_,_,rfl,rfl,k1,h1⟩:=h.inv;cases k1;obtain⟨_,_,_,_,rfl,rfl,k2,h2⟩:=h1.inv;cases k2;obtain⟨_,_,_,_,rfl,rfl,k3,h3⟩:=h2.inv;cases k3;obtain⟨v4,_,y4,_,rfl,rfl,k4,h4⟩:=h3.inv;obtain⟨v5,_,y5,_,rfl,rfl,k5,h5⟩:=h4.inv;cases h5;obtain⟨tv,rfl⟩:=YM.is_raw k4;obtain⟨sv,rfl⟩:=k5.is_raw
 grind
mutual
def Pf.yn:Pf->List Yn| .mk k n t ts fs as=>[.dat (.i k),.dat (.i n),.dat (.i t.kind),.dat (.s .ty t.args),Yg6 .tm ts,Yg6 .fm fs,.row .pf as.length (Pf.yns as)]
def Pf.yns:List Pf->List Yn|[]=>[]|a::l=>a.yn++Pf.yns l
end
theorem Pf.yn_len:∀t:Pf,t.yn.length=7| .mk _ _ _ _ _ _=>rfl
theorem Pf.yns_len:∀l:List Pf,(Pf.yns l).length=l.length*7
 |[]=>rfl
 |a::l=>by rw[Pf.yns,List.length_append,Pf.yn_len,Pf.yns_len l,List.length_cons];omega
mutual
theorem Pf.er:∀t:Pf,Ers t.yn t.view
 | .mk k n t ts fs as=> .cons (.dat _ rfl) (.cons (.dat _ rfl) (.cons (.dat _ rfl) (.cons (.dat _ rfl) (.cons (Zr9 .tm ts) (.cons (Zr9 .fm fs) (.cons (.row .pf _ _ as rfl (Pf.ers as)) .nil))))))
theorem Pf.ers:∀l:List Pf,Ers (Pf.yns l) (l.flatMap (EC.view .pf))
 |[]=> .nil
 |a::l=>by rw[Pf.yns,List.flatMap_cons];exact(Pf.er a).app (Pf.ers l)
end
end Go.Ab
