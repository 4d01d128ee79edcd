/- A part of this seat's proofs. No conditions. -/
import Derived.Test.YtlikcaapgaalhaaGreatDoorEA2
namespace Go.Ab
open Go
set_option linter.all false
@[simp] theorem constV_int(E:Env)(T:Nat)(k:IntKind)(n:Int):constV E T (.int k n)= .int k n:=rfl
@[simp] theorem constV_bool(E:Env)(T:Nat)(b:Bool):constV E T (.bool b)= .bool b:=rfl
@[simp] theorem constV_str(E:Env)(T:Nat)(s:ByteArray):constV E T (.string s)= .str s:=rfl
theorem lsum_take{α:Type}(f:α→Nat)(l:List α):∀m (h:m<l.length),((l.take (m+1)).map f).sum=((l.take m).map f).sum+f l[m]:=by
 induction l<;>grind
theorem lsum_mem{α:Type}(f:α→Nat){l:List α}{t:α}(h:t∈l):f t≤(l.map f).sum:=by
 induction l<;>grind
theorem lsum_take_le{α:Type}(f:α→Nat)(l:List α)(m:Nat):((l.take m).map f).sum≤(l.map f).sum:=by
 induction l generalizing m with
 |nil=>simp
 |cons t l ih=>cases m<;>simp_all
theorem lsum_len{α:Type}(f:α→Nat)(hf:∀x,1≤f x):∀l:List α,l.length≤(l.map f).sum
 |[]=>Nat.le_refl _
 |x::l=>by have:=lsum_len f hf l;grind
theorem all_of{α:Type}(p:α→Bool)(l:List α)(h:∀j (hj:j<l.length),p l[j]=true):l.all p=true:=by
 rw[List.all_eq_true]
 intro x hx
 obtain⟨j,hj,rfl⟩:=List.mem_iff_getElem.1 hx
 grind
theorem all_not{α:Type}(p:α→Bool){l:List α}{j:Nat}(hj:j<l.length)(h:p l[j]=false):l.all p=false:=by
 grind
theorem all_step{α:Type}{p:α→Prop}{l:List α}{m:Nat}(hm:m<l.length)(h:∀j (hj:j<l.length),j<m→p l[j])(h1:p l[m]):∀j (hj:j<l.length),j<m+1→p l[j]:=by
 grind
def arT(k:Int):Option Nat:=if k=1∨k=2∨k=5 then some 0 else if k=3∨k=4 then some 2 else none
mutual
def Ty.shape:Ty→Bool
 | .mk k xs=>(match arT k with|some n=>xs.length==n|none=>false)&&Ty.shapes xs
def Ty.shapes:List Ty→Bool
 |[]=>true
 |t::l=>t.shape&&Ty.shapes l
end
mutual
def Ty.size:Ty→Nat
 | .mk _ xs=>1+Ty.sizes xs
def Ty.sizes:List Ty→Nat
 |[]=>0
 |t::l=>t.size+Ty.sizes l
end
theorem Ty.sizes_eq:∀l:List Ty,Ty.sizes l=(l.map Ty.size).sum
 |[]=>rfl
 |t::l=>by simp only[Ty.sizes,Ty.sizes_eq l,List.map_cons,List.sum_cons]
theorem Ty.shapes_eq:∀l:List Ty,Ty.shapes l=l.all Ty.shape
 |[]=>rfl
 |t::l=>by simp only[Ty.shapes,Ty.shapes_eq l,List.all_cons]
theorem Ty.size_eq(t:Ty):t.size=1+(t.args.map Ty.size).sum:=by cases t;simp only[Ty.size,Ty.sizes_eq,Ty.args_mk]
theorem Ty.shape_eq(t:Ty):t.shape=((match arT t.kind with|some n=>t.args.length==n|none=>false)&&t.args.all Ty.shape):=by cases t;simp only[Ty.shape,Ty.shapes_eq,Ty.args_mk,Ty.kind_mk]
theorem Ty.size_pos(t:Ty):1≤t.size:=by rw[Ty.size_eq];omega
def Ty.nodes(t:Ty):Nat:=if t.shape then t.size else 0
theorem Ty.nodes_le(t:Ty):t.nodes≤t.size:=by simp only[Ty.nodes];grind
theorem Ty.ind{P:Ty→Prop}(h:∀t,(∀x∈t.args,P x)→P t)(t:Ty):P t:=by
 have:∀b (t:Ty),t.size≤b→P t:=by
  intro b
  induction b with
  |zero=>intro t ht;have:=t.size_pos;omega
  |succ b ih=>
   intro t ht
   refine h t fun x hx=>ih x ?_
   have:=lsum_mem Ty.size hx
   have:=t.size_eq
   omega
 exact this _ t (Nat.le_refl _)
def arK(k:Int):Option Nat:=
 if k=1∨k=4∨k=7∨k=13 then some 0 else if k=2∨k=5∨k=11∨k=12 then some 1 else if k=3∨k=8∨k=10 then some 2 else if k=6∨k=9 then some 3 else none
def typedK(k:Int):Bool:=k==2||k==6||k==9
def Ty.isNo(t:Ty):Bool:=t.kind==0&&t.args.length==0
def Ty.ok(t:Ty):Bool:=t.shape&&decide (t.size≤64)
def Tm.head(t:Tm):Bool:=(match arK t.kind with|some n=>t.args.length==n|none=>false)&&decide (0≤t.index)&&(t.index==0||t.kind==1)&&(bif typedK t.kind then t.ty.ok else t.ty.isNo)
mutual
def Tm.shape:Tm→Bool
 | .mk k i h xs=>(Tm.mk k i h xs).head&&Tm.shapes xs
def Tm.shapes:List Tm→Bool
 |[]=>true
 |t::l=>t.shape&&Tm.shapes l
end
mutual
def Tm.size:Tm→Nat
 | .mk _ _ _ xs=>1+Tm.sizes xs
def Tm.sizes:List Tm→Nat
 |[]=>0
 |t::l=>t.size+Tm.sizes l
end
mutual
def Tm.full:Tm→Nat
 | .mk _ _ h xs=>1+h.size+Tm.fulls xs
def Tm.fulls:List Tm→Nat
 |[]=>0
 |t::l=>t.full+Tm.fulls l
end
theorem Tm.sizes_eq:∀l:List Tm,Tm.sizes l=(l.map Tm.size).sum
 |[]=>rfl
 |t::l=>by simp only[Tm.sizes,Tm.sizes_eq l,List.map_cons,List.sum_cons]
theorem Tm.fulls_eq:∀l:List Tm,Tm.fulls l=(l.map Tm.full).sum
 |[]=>rfl
 |t::l=>by simp only[Tm.fulls,Tm.fulls_eq l,List.map_cons,List.sum_cons]
theorem Tm.shapes_eq:∀l:List Tm,Tm.shapes l=l.all Tm.shape
 |[]=>rfl
 |t::l=>by simp only[Tm.shapes,Tm.shapes_eq l,List.all_cons]
theorem Tm.size_eq(t:Tm):t.size=1+(t.args.map Tm.size).sum:=by cases t;simp only[Tm.size,Tm.sizes_eq,Tm.args_mk]
theorem Tm.full_eq(t:Tm):t.full=1+t.ty.size+(t.args.map Tm.full).sum:=by cases t;simp only[Tm.full,Tm.fulls_eq,Tm.args_mk,Tm.ty_mk]
theorem Tm.shape_eq(t:Tm):t.shape=(t.head&&t.args.all Tm.shape):=by cases t;simp only[Tm.shape,Tm.shapes_eq,Tm.args_mk]
theorem Tm.size_pos(t:Tm):1≤t.size:=by rw[Tm.size_eq];omega
theorem Tm.full_pos(t:Tm):1≤t.full:=by rw[Tm.full_eq];omega
theorem Tm.ind{P:Tm→Prop}(h:∀t,(∀x∈t.args,P x)→P t)(t:Tm):P t:=by
 have:∀b (t:Tm),t.size≤b→P t:=by
  intro b
  induction b with
  |zero=>intro t ht;have:=t.size_pos;omega
  |succ b ih=>
   intro t ht
   refine h t fun x hx=>ih x ?_
   have:=lsum_mem Tm.size hx
   have:=t.size_eq
   omega
 exact this _ t (Nat.le_refl _)
theorem Tm.size_le_full(t:Tm):t.size≤t.full:=by
 induction t using Tm.ind with
 |h t ih=>
  have:∀l:List Tm,(∀x∈l,x.size≤x.full)→(l.map Tm.size).sum≤(l.map Tm.full).sum:=by
   intro l
   induction l<;>grind
  have:=this t.args ih
  rw[t.size_eq,t.full_eq];omega
def Tm.nodes(t:Tm):Nat:=if t.shape then t.size else 0
theorem Tm.nodes_le(t:Tm):t.nodes≤t.size:=by simp only[Tm.nodes];grind
def Ty.err(t:Ty):Int:=if t.shape=false then 2 else if t.size>64 then 4 else 0
def Ty.num(t:Ty):Int:=if t.err=0 then t.size else 0
def noTy:Ty:= .mk 0 []
def Tm.err(t:Tm):Int:=if t.shape=false then 2 else if t.size>4096 then 4 else 0
def Tm.num(t:Tm):Int:=if t.err=0 then t.size else 0
def noTm:Tm:= .mk 0 0 (.mk 0 []) []
def nodesT(t:Ty):V:= .tup [.i t.nodes,.bool t.shape]
def nodesM(t:Tm):V:= .tup [.i t.nodes,.bool t.shape]
end Go.Ab
namespace Go.Ab
set_option linter.all false
mutual
def Ty.same:Ty→Ty→Bool
 | .mk k xs,.mk k' ys=>k==k'&&Ty.sames xs ys
def Ty.sames:List Ty→List Ty→Bool
 |[],[]=>true
 |x::xs,y::ys=>x.same y&&Ty.sames xs ys
 |_,_=>false
end
mutual
theorem Ty.same_iff:∀a b:Ty,a.same b=true↔a=b
 | .mk k xs,.mk k' ys=>by simp only[Ty.same,Bool.and_eq_true,beq_iff_eq,Ty.mk.injEq,Ty.sames_iff xs ys]
theorem Ty.sames_iff:∀a b:List Ty,Ty.sames a b=true↔a=b
 |[],[]=>by simp[Ty.sames]
 |x::xs,y::ys=>by simp only[Ty.sames,Bool.and_eq_true,List.cons.injEq,Ty.same_iff x y,Ty.sames_iff xs ys]
 |[],_::_=>by simp[Ty.sames]
 |_::_,[]=>by simp[Ty.sames]
end
instance:DecidableEq Ty:=fun a b=>decidable_of_iff _ (Ty.same_iff a b)
mutual
def Tm.same:Tm→Tm→Bool
 | .mk k i h xs,.mk k' i' h' ys=>k==k'&&i==i'&&decide (h=h')&&Tm.sames xs ys
def Tm.sames:List Tm→List Tm→Bool
 |[],[]=>true
 |x::xs,y::ys=>x.same y&&Tm.sames xs ys
 |_,_=>false
end
mutual
theorem Tm.same_iff:∀a b:Tm,a.same b=true↔a=b
 | .mk k i h xs,.mk k' i' h' ys=>by simp only[Tm.same,Bool.and_eq_true,beq_iff_eq,Tm.mk.injEq,Tm.sames_iff xs ys,decide_eq_true_eq,and_assoc]
theorem Tm.sames_iff:∀a b:List Tm,Tm.sames a b=true↔a=b
 |[],[]=>by simp[Tm.sames]
 |x::xs,y::ys=>by simp only[Tm.sames,Bool.and_eq_true,List.cons.injEq,Tm.same_iff x y,Tm.sames_iff xs ys]
 |[],_::_=>by simp[Tm.sames]
 |_::_,[]=>by simp[Tm.sames]
end
instance:DecidableEq Tm:=fun a b=>decidable_of_iff _ (Tm.same_iff a b)
theorem Ty.eq_iff(a b:Ty):a=b↔a.kind=b.kind∧a.args=b.args:=by cases a;cases b;simp
theorem Tm.eq_iff(a b:Tm):a=b↔a.kind=b.kind∧a.index=b.index∧a.ty=b.ty∧a.args=b.args:=by cases a;cases b;simp
theorem list_eq{α:Type}{xs ys:List α}(hl:xs.length=ys.length)(h:∀j (hj:j<xs.length),j<xs.length→xs[j]=ys[j]'(by omega)):xs=ys:=
 List.ext_getElem hl fun i h1 h2=>h i h1 h1
theorem list_ne{α:Type}{xs ys:List α}{m:Nat}(h1:m<xs.length)(h2:m<ys.length)(h:¬xs[m]=ys[m]):¬xs=ys:=fun he=>by grind
theorem step2{α:Type}{xs ys:List α}(hl:xs.length=ys.length){m:Nat}(hm:m<xs.length)(h:∀j (hj:j<xs.length),j<m→xs[j]=ys[j]'(by omega))(h1:xs[m]=ys[m]'(by omega)):∀j (hj:j<xs.length),j<m+1→xs[j]=ys[j]'(by omega):=by
 grind
def up(k b:Int):Int:=if k=2 then b+1 else b
mutual
def Tm.vars(b:Int):Tm→List (Int×Int)
 | .mk k i _ xs=>(if k=1 then [(i,b)] else [])++Tm.varss (up k b) xs
def Tm.varss(b:Int):List Tm→List (Int×Int)
 |[]=>[]
 |t::l=>t.vars b++Tm.varss b l
end
theorem Tm.varss_eq(b:Int):∀l:List Tm,Tm.varss b l=l.flatMap (Tm.vars b)
 |[]=>rfl
 |t::l=>by simp only[Tm.varss,Tm.varss_eq b l,List.flatMap_cons]
theorem Tm.vars_eq(b:Int)(t:Tm):t.vars b=(if t.kind=1 then [(t.index,b)] else [])++t.args.flatMap (Tm.vars (up t.kind b)):=by cases t;simp only[Tm.vars,Tm.varss_eq,Tm.kind_mk,Tm.index_mk,Tm.args_mk];rfl
mutual
def Tm.re(g:Int→Int→Tm)(b:Int):Tm→Tm
 | .mk k i h xs=>if k=1 then g i b else .mk k i h (Tm.res g (up k b) xs)
def Tm.res(g:Int→Int→Tm)(b:Int):List Tm→List Tm
 |[]=>[]
 |t::l=>t.re g b::Tm.res g b l
end
theorem Tm.res_eq(g:Int→Int→Tm)(b:Int):∀l:List Tm,Tm.res g b l=l.map (Tm.re g b)
 |[]=>rfl
 |t::l=>by simp only[Tm.res,Tm.res_eq g b l,List.map_cons]
theorem Tm.re_eq(g:Int→Int→Tm)(b:Int)(t:Tm):t.re g b=if t.kind=1 then g t.index b else .mk t.kind t.index t.ty (t.args.map (Tm.re g (up t.kind b))):=by cases t;simp only[Tm.re,Tm.res_eq,Tm.kind_mk,Tm.index_mk,Tm.args_mk,Tm.ty_mk];rfl
theorem flat_take{α β:Type}(f:α→List β)(l:List α)(m:Nat)(h:m<l.length):(l.take (m+1)).flatMap f=(l.take m).flatMap f++f l[m]:=by
 rw[←List.take_append_getElem h,List.flatMap_append];simp
theorem map_take{α β:Type}(f:α→β)(l:List α)(m:Nat)(h:m<l.length):(l.take (m+1)).map f=(l.take m).map f++[f l[m]]:=by
 rw[←List.take_append_getElem h,List.map_append];simp
theorem lsum_le{α:Type}{f g:α→Nat}:∀(l:List α),(∀x∈l,f x≤g x)→(l.map f).sum≤(l.map g).sum
 |[],_=>Nat.le_refl _
 |x::l,h=>by have:=lsum_le l fun y hy=>h y (by grind);grind
theorem flatLen(l:List Tm)(f:Tm→List (Int×Int))(h:∀x∈l,(f x).length≤x.size):(l.flatMap f).length≤(l.map Tm.size).sum:=by
 induction l<;>grind
theorem Tm.vars_len(t:Tm):∀b,(t.vars b).length≤t.size:=by
 induction t using Tm.ind with
 |h t ih=>
  intro b
  rw[t.vars_eq,t.size_eq]
  have:=flatLen t.args (Tm.vars (up t.kind b)) fun x hx=>ih x hx _
  grind
def Tm.near(t:Tm):Bool:=(t.vars 0).all fun p=>decide (p.1≤536870912)
def cnt(at_:Int)(l:List (Int×Int)):Nat:=(l.filter fun p=>p.1-p.2==at_).length
theorem cnt_append(at_:Int)(l l':List (Int×Int)):cnt at_ (l++l')=cnt at_ l+cnt at_ l':=by simp[cnt]
theorem cnt_le(at_:Int)(l:List (Int×Int)):cnt at_ l≤l.length:=List.length_filter_le _ _
theorem Tm.vars_nonneg(t:Tm)(h:t.shape=true):∀b,∀p∈t.vars b,0≤p.1:=by
 induction t using Tm.ind with
 |h t ih=>
  intro b p hp
  rw[t.shape_eq,Bool.and_eq_true] at h
  rw[t.vars_eq,List.mem_append] at hp
  rcases hp with hp|hp
  ·split at hp
   ·simp at hp;subst hp
    have:=h.1
    simp only[Tm.head,Bool.and_eq_true,decide_eq_true_eq] at this
    omega
   grind
  grind
theorem tmod_lo(n k:Int)(hk:0<k): -k<n.tmod k:=by
 have h:=Int.natAbs_tmod n k
 have h2:=Nat.mod_lt n.natAbs (show 0<k.natAbs by omega)
 omega
def natT:Ty:= .mk 1 []
def listT:Ty:= .mk 2 []
def unitT:Ty:= .mk 5 []
def twoT(a b:Ty):Ty:= .mk 3 [a,b]
def funT(a b:Ty):Ty:= .mk 4 [a,b]
def okT(t:Ty):Ty×Int:=if t.err=0 then(t,0) else(noTy,4)
def at0(l:List Ty)(i:Nat):Ty:=l.getD i noTy
def rule(k:Int)(h:Ty)(l:List Ty):Ty×Int:=
 let a:=at0 l 0
 let b:=at0 l 1
 let c:=at0 l 2
 if k=3 then(if ¬a.kind=4∨¬at0 a.args 0=b then(noTy,7) else(at0 a.args 1,0))
 else if k=4 then(natT,0)
 else if k=5 then(if ¬a=natT then(noTy,7) else(natT,0))
 else if k=6 then(if ¬a=h∨¬b=funT natT (funT h h)∨¬c=natT then(noTy,7) else(h,0))
 else if k=7 then(listT,0)
 else if k=8 then(if ¬a=natT∨¬b=listT then(noTy,7) else(listT,0))
 else if k=9 then(if ¬a=h∨¬b=funT natT (funT listT (funT h h))∨¬c=listT then(noTy,7) else(h,0))
 else if k=10 then okT (twoT a b)
 else if k=11∨k=12 then(if ¬a.kind=3 then(noTy,7) else if k=11 then(at0 a.args 0,0) else(at0 a.args 1,0))
 else(unitT,0)
mutual
def Tm.inf:List Ty→Tm→Ty×Int
 |g,.mk k i h xs=>
  if k=1 then(if i≥g.length then(noTy,6) else(at0 g (g.length-1-i.toNat),0))
  else if k=2 then(if(Tm.infs (g++[h]) xs).2≠0 then(noTy,(Tm.infs (g++[h]) xs).2) else okT (funT h (at0 (Tm.infs (g++[h]) xs).1 0)))
  else if(Tm.infs g xs).2≠0 then(noTy,(Tm.infs g xs).2) else rule k h (Tm.infs g xs).1
def Tm.infs:List Ty→List Tm→List Ty×Int
 |_,[]=>([],0)
 |g,t::l=>if(t.inf g).2≠0 then([],(t.inf g).2) else if(Tm.infs g l).2≠0 then([],(Tm.infs g l).2) else((t.inf g).1::(Tm.infs g l).1,0)
end
theorem cnt_one(at_:Int)(p:Int×Int):cnt at_ [p]=if p.1-p.2=at_ then 1 else 0:=by simp only[cnt,List.filter_cons,List.filter_nil];grind
def liftG(fr by_:Int)(i b:Int):Tm:= .mk 1 (if i-b≥fr then i+by_ else i) (.mk 0 []) []
def putG(at_:Int)(s:Tm)(i b:Int):Tm:=if i-b=at_ then s.re (liftG 0 (at_+b)) 0 else .mk 1 (if i-b>at_ then i-1 else i) (.mk 0 []) []
def modI(n k:Int):Int:=((n.tmod k)+k).tmod k
structure Dk where
 l:List Int
 at_:Nat
def Dk.ok(d:Dk):Prop:=d.at_≤d.l.length∧d.l.length<1099511627776
def Dk.next(d:Dk)(n:Int):Int×Dk:=if h:n<1∨d.l.length≤d.at_ then(0,d) else(modI (d.l[d.at_]'(by omega)) n,⟨d.l,d.at_+1⟩)
def Dk.cells(d:Dk):List V:=[.s .int d.l,.i d.at_]
theorem err_zero{t:Tm}(h:t.err=0):t.shape=true∧t.size≤4096:=by
 simp only[Tm.err] at h
 grind
theorem near_lt{t:Tm}(h:t.err=0)(hn:t.near=true):∀p∈t.vars 0,0≤p.1∧p.1<549755813888:=fun p hp=>
 ⟨t.vars_nonneg (err_zero h).1 0 p hp,by have:=List.all_eq_true.1 hn p hp;grind⟩
theorem num_le(t:Tm):0≤t.num∧t.num≤4096:=by
 simp only[Tm.num];split
 ·rename_i h;have:=(err_zero h).2;omega
 simp
theorem mul_bd(c d:Int)(hc:0≤c∧c≤274877906944)(hd: -1≤d∧d≤4096): -274877906944≤c*d∧c*d≤1125899906842624:=by
 constructor
 ·have:=Int.mul_le_mul_of_nonneg_left hd.1 hc.1;omega
 ·have:=Int.mul_le_mul_of_nonneg_left hd.2 hc.1;omega
theorem Dk.next_ok{d:Dk}(h:d.ok)(n:Int):(d.next n).2.ok:=by
 simp only[Dk.next];split
 ·exact h
 ·rename_i hc;obtain⟨h1,h2⟩:=h;exact⟨by grind,h2⟩
def Dk.type:Nat→Dk→Ty×Dk
 |0,d=>let r:=d.next 7;(if r.1=3 then .mk 2 [] else if r.1=4 then .mk 5 [] else .mk 1 [],r.2)
 |n+1,d=>
  let r:=d.next 7
  if r.1=5∨r.1=6 then
   let a:=r.2.type n
   let b:=a.2.type n
   (.mk (if r.1=5 then 3 else 4) [a.1,b.1],b.2)
  else(if r.1=3 then .mk 2 [] else if r.1=4 then .mk 5 [] else .mk 1 [],r.2)
theorem Dk.type_ok:∀(n:Nat) (d:Dk),d.ok→(d.type n).2.ok
 |0,d,h=>Dk.next_ok h 7
 |n+1,d,h=>by
  simp only[Dk.type];split
  ·exact Dk.type_ok n _ (Dk.type_ok n _ (Dk.next_ok h 7))
  ·exact Dk.next_ok h 7
theorem Dk.type_eq(k:Int)(d:Dk):d.type k.toNat=(if 0<k∧((d.next 7).1=5∨(d.next 7).1=6) then
 (.mk (if(d.next 7).1=5 then 3 else 4) [((d.next 7).2.type (k-1).toNat).1,((((d.next 7).2.type (k-1).toNat).2).type (k-1).toNat).1],((((d.next 7).2.type (k-1).toNat).2).type (k-1).toNat).2)
 else(if(d.next 7).1=3 then .mk 2 [] else if(d.next 7).1=4 then .mk 5 [] else .mk 1 [],(d.next 7).2)):=by
 by_cases hk:0<k
 ·have e:k.toNat=(k-1).toNat+1:=by omega
  rw[e];simp only[Dk.type,hk,true_and]
 ·have e:k.toNat=0:=by omega
  rw[e];simp only[Dk.type,hk,false_and,if_false]
theorem Dk.type_size:∀(n:Nat) (d:Dk),(d.type n).1.size≤2^(n+1)-1
 |0,d=>by simp only[Dk.type];(repeat' split)<;>simp[Ty.size_eq]
 |n+1,d=>by
  have h1:=Dk.type_size n (d.next 7).2
  have h2:=Dk.type_size n ((d.next 7).2.type n).2
  have h3:2^(n+1+1)=2^(n+1)+2^(n+1):=by omega
  have h4:2≤2^(n+1):=by grind
  simp only[Dk.type];split
  ·rw [Ty.size_eq];simp only[Ty.args_mk,List.map_cons,List.map_nil,List.sum_cons,List.sum_nil];omega
  ·have:∀x:Int,(Ty.mk x []).size=1:=fun x=>by rfl
   grind
theorem Dk.type_small(d:Dk)(k:Int)(h:k≤20):(d.type k.toNat).1.size<1099511627776:=by
 have h1:=Dk.type_size k.toNat d
 have h2:2^(k.toNat+1)≤2^21:=Nat.pow_le_pow_right (by omega) (by omega)
 omega
def numT:Nat→Tm
 |0=> .mk 4 0 (.mk 0 []) []
 |n+1=> .mk 5 0 (.mk 0 []) [numT n]
def numOf(n:Int):Tm:=if 0≤n∧n<4096 then numT n.toNat else noTm
def Dk.types:Nat→Dk→List Ty×Dk
 |0,d=>([],d)
 |n+1,d=>let a:=d.type 1;let b:=a.2.types n;(a.1::b.1,b.2)
theorem Dk.types_snoc:∀(n:Nat) (d:Dk),d.types (n+1)=((d.types n).1++[((d.types n).2.type 1).1],((d.types n).2.type 1).2)
 |0,d=>rfl
 |n+1,d=>by
  have:=Dk.types_snoc n (d.type 1).2
  show((d.type 1).1::((d.type 1).2.types (n+1)).1,((d.type 1).2.types (n+1)).2)=_
  rw[this];rfl
theorem Dk.types_ok:∀(n:Nat) (d:Dk),d.ok→(d.types n).2.ok
 |0,d,h=>h
 |n+1,d,h=>Dk.types_ok n _ (Dk.type_ok 1 d h)
theorem Dk.types_len:∀(n:Nat) (d:Dk),(d.types n).1.length=n
 |0,d=>rfl
 |n+1,d=>by simp[Dk.types,Dk.types_len n]
theorem modI_nonneg(n k:Int)(hk:0<k):0≤modI n k∧modI n k<k:=by
 have h1:=tmod_lo n k hk
 constructor
 ·exact Int.tmod_nonneg _ (by omega)
 ·exact Int.tmod_lt_of_pos _ hk
theorem Dk.next_bd(d:Dk)(n:Int)(hn:0<n):0≤(d.next n).1∧(d.next n).1<n:=by
 simp only[Dk.next];split
 ·omega
 ·exact modI_nonneg _ _ hn
def Dk.ctx(d:Dk):List Ty×Dk:=(d.next 4).2.types (d.next 4).1.toNat
def vT(i:Int):Tm:= .mk 1 i (.mk 0 []) []
def lamT(t:Tm):Tm:= .mk 2 0 (.mk 1 []) [t]
def recT(b f n:Tm):Tm:= .mk 6 0 (.mk 1 []) [b,f,n]
def sT(t:Tm):Tm:= .mk 5 0 (.mk 0 []) [t]
def zT:Tm:= .mk 4 0 (.mk 0 []) []
def apT(f x:Tm):Tm:= .mk 3 0 (.mk 0 []) [f,x]
def addF:Tm:=lamT (lamT (sT (vT 0)))
def plusT:Tm:=lamT (lamT (recT (vT 1) addF (vT 0)))
def predT:Tm:=lamT (recT zT (lamT (lamT (vT 1))) (vT 0))
def subF:Tm:=lamT (lamT (apT predT (vT 0)))
def subT:Tm:=lamT (lamT (recT (vT 1) subF (vT 0)))
def liftErr(t:Tm)(fr by_:Int):Int:=if t.err≠0 then t.err else if ¬(0≤fr∧fr≤4096)∨¬(0≤by_∧by_≤4096)∨t.near=false then 1 else 0
def varsT(g:List Ty)(t:Ty):List Int:=((List.range g.length).filter fun i=>decide (g[g.length-1-i]? =some t)).map Int.ofNat
def firstErr:List Ty→Int
 |[]=>0
 |t::l=>if t.err≠0 then t.err else firstErr l
theorem firstErr_at:∀(l:List Ty) (m:Nat) (hm:m<l.length),(∀j (hj:j<l.length),j<m→l[j].err=0)→l[m].err≠0→firstErr l=l[m].err:=by
 intro l
 induction l with
 |nil=>simp
 |cons t l ih=>
  intro m hm h h1
  cases m with
  |zero=>simp only[List.getElem_cons_zero] at h1;simp only[firstErr];grind
  |succ m=>
   have h0:=h 0 (by simp) (by omega)
   simp only[List.getElem_cons_zero] at h0
   simp only[firstErr,h0,ne_eq,not_true_eq_false,if_false,List.getElem_cons_succ]
   grind
theorem firstErr_none:∀(l:List Ty),(∀j (hj:j<l.length),j<l.length→l[j].err=0)→firstErr l=0:=by
 intro l
 induction l with
 |nil=>intro _;rfl
 |cons t l ih=>
  intro h
  have h0:=h 0 (by simp) (by simp)
  simp only[List.getElem_cons_zero] at h0
  simp only[firstErr,h0,ne_eq,not_true_eq_false,if_false]
  exact ih fun j hj _=>by have:=h (j+1) (by grind) (by grind);grind
def ctxErr(l:List Ty):Int:=if l.length>16 then 3 else firstErr l
def argsI(k:Int):Int:=if k=1∨k=4∨k=7∨k=13 then 0 else if k=2∨k=5∨k=11∨k=12 then 1 else if k=3∨k=8∨k=10 then 2 else if k=6∨k=9 then 3 else -1
def nT(k:Int)(l:List Tm):Tm:= .mk k 0 (.mk 0 []) l
def hT(k:Int)(s:Ty)(l:List Tm):Tm:= .mk k 0 s l
def lmT(s:Ty)(x:Tm):Tm:= .mk 2 0 s [x]
def isFn(g:List Ty)(t:Ty)(i:Nat):Bool:=(at0 g (g.length-1-i)).kind==4&&decide (at0 (at0 g (g.length-1-i)).args 1=t)
def findF(g:List Ty)(t:Ty):Option Nat:=(List.range g.length).find? (isFn g t)
abbrev MkF:=Dk→List Ty→Ty→Tm×Dk
def Dk.fin(rec:MkF)(pos:Bool)(d:Dk)(g:List Ty)(t:Ty):Tm×Dk:=
 if t.kind=1 then
  if pos=true then
   if(d.next 5).1=0 then(sT (rec (d.next 5).2 g t).1,(rec (d.next 5).2 g t).2)
   else if(d.next 5).1=1 then
    (apT (apT plusT (rec (d.next 5).2 g t).1) (rec (rec (d.next 5).2 g t).2 g t).1,(rec (rec (d.next 5).2 g t).2 g t).2)
   else if(d.next 5).1=2 then
    (apT (apT subT (rec (d.next 5).2 g t).1) (rec (rec (d.next 5).2 g t).2 g t).1,(rec (rec (d.next 5).2 g t).2 g t).2)
   else(numOf ((d.next 5).2.next 3).1,((d.next 5).2.next 3).2)
  else(numOf (d.next 3).1,(d.next 3).2)
 else if t.kind=2 then
  if pos=true then
   if(d.next 2).1=0 then(nT 8 [(rec (d.next 2).2 g natT).1,(rec (rec (d.next 2).2 g natT).2 g t).1],(rec (rec (d.next 2).2 g natT).2 g t).2)
   else(nT 7 [],(d.next 2).2)
  else(nT 7 [],d)
 else if t.kind=3 then(nT 10 [(rec d g (at0 t.args 0)).1,(rec (rec d g (at0 t.args 0)).2 g (at0 t.args 1)).1],(rec (rec d g (at0 t.args 0)).2 g (at0 t.args 1)).2)
 else if t.kind=4 then(lmT (at0 t.args 0) (rec d (g++[at0 t.args 0]) (at0 t.args 1)).1,(rec d (g++[at0 t.args 0]) (at0 t.args 1)).2)
 else(nT 13 [],d)
def Dk.m0(rec:MkF)(d:Dk)(g:List Ty)(t s:Ty):Tm×Dk:=(apT (lmT s (rec d (g++[s]) t).1) (rec (rec d (g++[s]) t).2 g s).1,(rec (rec d (g++[s]) t).2 g s).2)
def Dk.m1(rec:MkF)(d:Dk)(g:List Ty)(t s:Ty):Tm×Dk:=(nT 11 [nT 10 [(rec d g t).1,(rec (rec d g t).2 g s).1]],(rec (rec d g t).2 g s).2)
def Dk.m2(rec:MkF)(d:Dk)(g:List Ty)(t:Ty):Tm×Dk:=
 (hT 6 t [(rec (rec d (g++[natT,t]) t).2 g t).1,lmT natT (lmT t (rec d (g++[natT,t]) t).1),numOf ((rec (rec d (g++[natT,t]) t).2 g t).2.next 3).1],((rec (rec d (g++[natT,t]) t).2 g t).2.next 3).2)
def Dk.m3(rec:MkF)(d:Dk)(g:List Ty)(t:Ty):Tm×Dk:=
 (hT 9 t [(rec (rec d (g++[natT,listT,t]) t).2 g t).1,lmT natT (lmT listT (lmT t (rec d (g++[natT,listT,t]) t).1)),(rec (rec (rec d (g++[natT,listT,t]) t).2 g t).2 g listT).1],(rec (rec (rec d (g++[natT,listT,t]) t).2 g t).2 g listT).2)
def Dk.m4(rec:MkF)(d:Dk)(g:List Ty)(t s:Ty):Tm×Dk:=(nT 12 [nT 10 [(rec d g s).1,(rec (rec d g s).2 g t).1]],(rec (rec d g s).2 g t).2)
def Dk.m5(rec:MkF)(pos:Bool)(d:Dk)(g:List Ty)(t:Ty):Tm×Dk:=
 match findF g t with
 |some i=>(apT (vT i) (rec d g (at0 (at0 g (g.length-1-i)).args 0)).1,(rec d g (at0 (at0 g (g.length-1-i)).args 0)).2)
 |none=>d.fin rec pos g t
def Dk.mid(rec:MkF)(pos:Bool)(d:Dk)(g:List Ty)(t:Ty):Tm×Dk:=
 if pos=true then
  if(d.next 8).1=0 then((d.next 8).2.type 0).2.m0 rec g t ((d.next 8).2.type 0).1
  else if(d.next 8).1=1 then((d.next 8).2.type 0).2.m1 rec g t ((d.next 8).2.type 0).1
  else if(d.next 8).1=2 then(d.next 8).2.m2 rec g t
  else if(d.next 8).1=3 then(d.next 8).2.m3 rec g t
  else if(d.next 8).1=4 then((d.next 8).2.type 0).2.m4 rec g t ((d.next 8).2.type 0).1
  else if(d.next 8).1=5 then(d.next 8).2.m5 rec pos g t
  else(d.next 8).2.fin rec pos g t
 else d.fin rec pos g t
theorem Dk.mid_pos{rec:MkF}{pos:Bool}{d:Dk}{g:List Ty}{t:Ty}(h:pos=true):d.mid rec pos g t=
 if(d.next 8).1=0 then((d.next 8).2.type 0).2.m0 rec g t ((d.next 8).2.type 0).1
 else if(d.next 8).1=1 then((d.next 8).2.type 0).2.m1 rec g t ((d.next 8).2.type 0).1
 else if(d.next 8).1=2 then(d.next 8).2.m2 rec g t
 else if(d.next 8).1=3 then(d.next 8).2.m3 rec g t
 else if(d.next 8).1=4 then((d.next 8).2.type 0).2.m4 rec g t ((d.next 8).2.type 0).1
 else if(d.next 8).1=5 then(d.next 8).2.m5 rec pos g t
 else(d.next 8).2.fin rec pos g t:=if_pos h
def Dk.gen(rec:MkF)(pos:Bool)(d:Dk)(g:List Ty)(t:Ty):Tm×Dk:=
 if varsT g t=[] then d.mid rec pos g t
 else if 0<(d.next 3).1 then(vT ((varsT g t).getD ((d.next 3).2.next (varsT g t).length).1.toNat 0),((d.next 3).2.next (varsT g t).length).2)
 else(d.next 3).2.mid rec pos g t
def Dk.tm:Nat→MkF
 |0,d,_,_=>(noTm,d)
 |n+1,d,g,t=>d.gen (Dk.tm n) (decide (2≤n)) g t
def Ty.small(t:Ty):Prop:=t.shape=true∧t.size≤3
def smalls(g:List Ty):Prop:=∀t∈g,t.small
inductive Mk:Nat→List Ty→Ty→Tm→Prop
 |var (n g t) (i:Nat) (hi:i<g.length) (h:at0 g (g.length-1-i)=t):Mk (n+1) g t (vT i)
 |app (n g t s a b) (hn:2≤n) (hs:s.shape=true) (h1:s.size=1) (ha:Mk n (g++[s]) t a) (hb:Mk n g s b):Mk (n+1) g t (apT (lmT s a) b)
 |fst (n g t s a b) (hn:2≤n) (hs:s.shape=true) (h1:s.size=1) (ha:Mk n g t a) (hb:Mk n g s b):Mk (n+1) g t (nT 11 [nT 10 [a,b]])
 |snd (n g t s a b) (hn:2≤n) (hs:s.shape=true) (h1:s.size=1) (ha:Mk n g s a) (hb:Mk n g t b):Mk (n+1) g t (nT 12 [nT 10 [a,b]])
 |recu (n g t a b m) (hn:2≤n) (hm:m<3) (ha:Mk n (g++[natT,t]) t a) (hb:Mk n g t b):Mk (n+1) g t (hT 6 t [b,lmT natT (lmT t a),numT m])
 |fold (n g t a b c) (hn:2≤n) (ha:Mk n (g++[natT,listT,t]) t a) (hb:Mk n g t b) (hc:Mk n g listT c):Mk (n+1) g t (hT 9 t [b,lmT natT (lmT listT (lmT t a)),c])
 |ctx (n g t s a) (hn:2≤n) (i:Nat) (hi:i<g.length) (h:at0 g (g.length-1-i)=funT s t) (h1:s.size=1) (ha:Mk n g s a):Mk (n+1) g t (apT (vT i) a)
 |succ (n g a) (hn:2≤n) (ha:Mk n g natT a):Mk (n+1) g natT (sT a)
 |plus (n g a b) (hn:2≤n) (ha:Mk n g natT a) (hb:Mk n g natT b):Mk (n+1) g natT (apT (apT plusT a) b)
 |sub (n g a b) (hn:2≤n) (ha:Mk n g natT a) (hb:Mk n g natT b):Mk (n+1) g natT (apT (apT subT a) b)
 |num (n g m) (hm:m<3):Mk (n+1) g natT (numT m)
 |cons (n g a b) (hn:2≤n) (ha:Mk n g natT a) (hb:Mk n g listT b):Mk (n+1) g listT (nT 8 [a,b])
 |nil (n g):Mk (n+1) g listT (nT 7 [])
 |pair (n g s t a b) (h1:s.size=1) (h2:t.size=1) (ha:Mk n g s a) (hb:Mk n g t b):Mk (n+1) g (twoT s t) (nT 10 [a,b])
 |lam (n g s t a) (h1:s.size=1) (h2:t.size=1) (ha:Mk n (g++[s]) t a):Mk (n+1) g (funT s t) (lmT s a)
 |unit (n g):Mk (n+1) g unitT (nT 13 [])
theorem Dk.fin_ok{rec:MkF}{pos:Bool}{d:Dk}{g:List Ty}{t:Ty}(h:∀d g t,d.ok→(rec d g t).2.ok)(hd:d.ok):(d.fin rec pos g t).2.ok:=by
 have h5:=Dk.next_ok hd 5
 have h3:=Dk.next_ok hd 3
 have h2:=Dk.next_ok hd 2
 unfold Dk.fin
 repeat' split
 all_goals first
  |exact hd|exact h3|exact h2|exact Dk.next_ok h5 3|exact h _ _ _ h5|exact h _ _ _ (h _ _ _ h5)|exact h _ _ _ (h _ _ _ h2)|exact h _ _ _ (h _ _ _ hd)|grind
theorem Dk.mid_ok{rec:MkF}{pos:Bool}{d:Dk}{g:List Ty}{t:Ty}(h:∀d g t,d.ok→(rec d g t).2.ok)(hd:d.ok):(d.mid rec pos g t).2.ok:=by
 have h8:=Dk.next_ok hd 8
 have hs:=Dk.type_ok 0 _ h8
 have hf:=Dk.fin_ok (pos:=pos) (g:=g) (t:=t) h h8
 unfold Dk.mid Dk.m0 Dk.m1 Dk.m2 Dk.m3 Dk.m4 Dk.m5
 repeat' split
 all_goals first
  |exact hf|exact Dk.fin_ok h hd|exact h _ _ _ (h _ _ _ hs)|exact Dk.next_ok (h _ _ _ (h _ _ _ h8)) 3|exact h _ _ _ (h _ _ _ (h _ _ _ h8))|grind
theorem Dk.gen_ok{rec:MkF}{pos:Bool}{d:Dk}{g:List Ty}{t:Ty}(h:∀d g t,d.ok→(rec d g t).2.ok)(hd:d.ok):(d.gen rec pos g t).2.ok:=by
 unfold Dk.gen
 repeat' split
 ·exact Dk.mid_ok h hd
 ·exact Dk.next_ok (Dk.next_ok hd 3) _
 ·exact Dk.mid_ok h (Dk.next_ok hd 3)
theorem Dk.tm_ok:∀(n:Nat) (d:Dk) (g:List Ty) (t:Ty),d.ok→(Dk.tm n d g t).2.ok
 |0,d,_,_,h=>h
 |n+1,d,g,t,h=>Dk.gen_ok (fun d g t hd=>Dk.tm_ok n d g t hd) h
theorem Ty.err_iff(t:Ty):t.err=0↔t.shape=true∧t.size≤64:=by
 simp only[Ty.err]
 grind
theorem Ty.err_args{t x:Ty}(h:t.err=0)(hx:x∈t.args):x.err=0:=by
 rw[Ty.err_iff] at h ⊢
 have h1:=lsum_mem Ty.size hx
 have h2:=t.size_eq
 have h3:=h.1
 rw[Ty.shape_eq,Bool.and_eq_true] at h3
 grind
theorem Ty.args_two{t:Ty}(h:t.shape=true)(hk:t.kind=3∨t.kind=4):∃x y,t.args=[x,y]:=by
 rw[Ty.shape_eq,Bool.and_eq_true] at h
 have h1:arT t.kind=some 2:=by rcases hk with hk|hk<;>rw[hk]<;>rfl
 have h2:=h.1
 rw[h1] at h2
 simp at h2
 match hl:t.args,h2 with
 |[x,y],_=>simp
theorem at0_lt{l:List Ty}{i:Nat}(h:i<l.length):at0 l i=l[i]:=by simp[at0,h]
theorem at0_mem{l:List Ty}{i:Nat}(h:i<l.length):at0 l i∈l:=by rw[at0_lt h];simp
@[simp] theorem at0_cons0(x:Ty)(l:List Ty):at0 (x::l) 0=x:=rfl
@[simp] theorem at0_cons1(x y:Ty)(l:List Ty):at0 (x::y::l) 1=y:=rfl
@[simp] theorem at0_cons2(x y z:Ty)(l:List Ty):at0 (x::y::z::l) 2=z:=rfl
theorem Tm.infs_err(g:List Ty):∀(xs:List Tm) (m:Nat) (hm:m<xs.length),(∀j (hj:j<xs.length),j<m→(xs[j].inf g).2=0)→(xs[m].inf g).2≠0→Tm.infs g xs=([],(xs[m].inf g).2):=by
 intro xs
 induction xs with
 |nil=>simp
 |cons x l ih=>
  intro m hm h h1
  cases m with
  |zero=>simp only[List.getElem_cons_zero] at h1 ⊢;simp only[Tm.infs];grind
  |succ m=>
   have h0:=h 0 (by simp) (by omega)
   simp only[List.getElem_cons_zero] at h0
   simp only[List.length_cons] at hm
   have h2:=ih m (by omega) (fun j hj hlt=>by grind) (by grind)
   simp only[List.getElem_cons_succ] at h1 ⊢
   simp only[Tm.infs,h0,ne_eq,not_true_eq_false,if_false,h2,h1,not_false_eq_true,if_true]
theorem Tm.infs_ok(g:List Ty):∀(xs:List Tm),(∀x∈xs,(x.inf g).2=0)→Tm.infs g xs=(xs.map fun x=>(x.inf g).1,0):=by
 intro xs
 induction xs with
 |nil=>intro _;rfl
 |cons x l ih=>
  intro h
  have h0:=h x (by simp)
  have h1:=ih fun y hy=>h y (by grind)
  simp only[Tm.infs,h0,h1,ne_eq,not_true_eq_false,if_false,List.map_cons]
theorem Tm.infs_all(g:List Ty):∀(xs:List Tm),(Tm.infs g xs).2=0→∀x∈xs,(x.inf g).2=0:=by
 intro xs
 induction xs with
 |nil=>simp
 |cons y l ih=>
  intro h x hx
  simp only[Tm.infs] at h
  grind
theorem Tm.inf_eq(g:List Ty)(t:Tm):t.inf g=(if t.kind=1 then(if t.index≥g.length then(noTy,6) else(at0 g (g.length-1-t.index.toNat),0))
 else if t.kind=2 then(if(Tm.infs (g++[t.ty]) t.args).2≠0 then(noTy,(Tm.infs (g++[t.ty]) t.args).2) else okT (funT t.ty (at0 (Tm.infs (g++[t.ty]) t.args).1 0)))
 else if(Tm.infs g t.args).2≠0 then(noTy,(Tm.infs g t.args).2) else rule t.kind t.ty (Tm.infs g t.args).1):=by
 cases t;rfl
theorem okT_good{t:Ty}(h:(okT t).2=0):(okT t).1.err=0:=by
 simp only[okT] at h ⊢;grind
theorem arK_len{t:Tm}(h:t.shape=true):arK t.kind=some t.args.length:=by
 rw[Tm.shape_eq,Bool.and_eq_true] at h
 have h1:=h.1
 simp only[Tm.head,Bool.and_eq_true] at h1
 grind
theorem shape_args{t:Tm}(h:t.shape=true):∀x∈t.args,x.shape=true:=by
 rw[Tm.shape_eq,Bool.and_eq_true] at h
 grind
theorem shape_index{t:Tm}(h:t.shape=true):0≤t.index∧(t.kind≠1→t.index=0):=by
 rw[Tm.shape_eq,Bool.and_eq_true] at h
 have h1:=h.1
 simp only[Tm.head,Bool.and_eq_true,decide_eq_true_eq,Bool.or_eq_true,beq_iff_eq] at h1
 omega
theorem shape_ty{t:Tm}(h:t.shape=true)(hk:typedK t.kind=true):t.ty.err=0:=by
 rw[Tm.shape_eq,Bool.and_eq_true] at h
 have h1:=h.1
 simp only[Tm.head,Bool.and_eq_true,hk,cond_true] at h1
 have h2:=h1.2
 simp only[Ty.ok,Bool.and_eq_true,decide_eq_true_eq] at h2
 exact(Ty.err_iff _).2 h2
theorem arK_cases{k:Int}{n:Nat}(h:arK k=some n):(n=0∧(k=1∨k=4∨k=7∨k=13))∨(n=1∧(k=2∨k=5∨k=11∨k=12))∨(n=2∧(k=3∨k=8∨k=10))∨(n=3∧(k=6∨k=9)):=by
 simp only[arK] at h
 grind
theorem len1{α:Type}{l:List α}(h:l.length=1):l=[l[0]'(by omega)]:=by
 match l,h with
 |[x],_=>rfl
theorem len_1{α:Type}{l:List α}(h:l.length=1):∃x,l=[x]:=⟨_,len1 h⟩
theorem len_2{α:Type}{l:List α}(h:l.length=2):∃x y,l=[x,y]:=by
 match l,h with
 |[x,y],_=>simp
theorem len_3{α:Type}{l:List α}(h:l.length=3):∃x y z,l=[x,y,z]:=by
 match l,h with
 |[x,y,z],_=>simp
theorem rule_good{k:Int}{h:Ty}{l:List Ty}(hk:arK k=some l.length)(hl:∀x∈l,x.err=0)(hh:typedK k=true→h.err=0)(h0:(rule k h l).2=0):(rule k h l).1.err=0:=by
 have h1:∀i,i<l.length→(at0 l i).err=0:=fun i hi=>hl _ (at0_mem hi)
 have h2:∀i,i<l.length→(at0 l i).kind=3∨(at0 l i).kind=4→∀j,j<2→(at0 (at0 l i).args j).err=0:=by
  intro i hi hk j hj
  obtain⟨x,y,hxy⟩:=Ty.args_two ((Ty.err_iff _).1 (h1 i hi)).1 hk
  refine Ty.err_args (h1 i hi) ?_
  exact at0_mem (by grind)
 rcases arK_cases hk with⟨hn,hk⟩|⟨hn,hk⟩|⟨hn,hk⟩|⟨hn,hk⟩
 ·rcases hk with rfl|rfl|rfl|rfl<;>rfl
 ·rcases hk with rfl|rfl|rfl|rfl
  ·rfl
  ·simp only[rule] at h0 ⊢;grind
  ·simp only[rule] at h0 ⊢;grind
  ·simp only[rule] at h0 ⊢;grind
 ·rcases hk with rfl|rfl|rfl
  ·simp only[rule] at h0 ⊢
   grind
  ·simp only[rule] at h0 ⊢;grind
  ·simp only[rule] at h0 ⊢;simp at h0 ⊢;exact okT_good h0
 ·rcases hk with rfl|rfl
  ·simp only[rule] at h0 ⊢;grind
  ·simp only[rule] at h0 ⊢;grind
theorem Tm.inf_good(t:Tm):∀g:List Ty,t.shape=true→(∀x∈g,x.err=0)→(t.inf g).2=0→(t.inf g).1.err=0:=by
 induction t using Tm.ind with
 |h t ih=>
  intro g hsh hg h0
  rw[Tm.inf_eq] at h0 ⊢
  by_cases h1:t.kind=1
  ·simp only[h1,if_true] at h0 ⊢
   by_cases h2:t.index≥g.length
   ·grind
   ·rw [if_neg h2];have:=(shape_index hsh).1;exact hg _ (at0_mem (by omega))
  ·simp only[h1,if_false] at h0 ⊢
   by_cases h2:t.kind=2
   ·simp only[h2,if_true] at h0 ⊢
    by_cases h3:(Tm.infs (g++[t.ty]) t.args).2=0
    ·simp only[h3,ne_eq,not_true_eq_false,if_false] at h0 ⊢;exact okT_good h0
    grind
   ·simp only[h2,if_false] at h0 ⊢
    by_cases h3:(Tm.infs g t.args).2=0
    ·simp only[h3,ne_eq,not_true_eq_false,if_false] at h0 ⊢
     have h4:=Tm.infs_all g t.args h3
     have h5:=Tm.infs_ok g t.args h4
     rw[h5] at h0 ⊢
     refine rule_good (by rw[arK_len hsh];simp) ?_ (shape_ty hsh) h0
     intro x hx
     obtain⟨y,hy,rfl⟩:=List.mem_map.1 hx
     exact ih y hy g (shape_args hsh y hy) hg (h4 y hy)
    grind
theorem shape_zero{t:Ty}(h:t.shape=true)(hk:t.kind=1∨t.kind=2∨t.kind=5):t.args=[]:=by
 rw[Ty.shape_eq,Bool.and_eq_true] at h
 have h1:arT t.kind=some 0:=by rcases hk with hk|hk|hk<;>rw[hk]<;>rfl
 grind
theorem shape_kind{t:Ty}(h:t.shape=true):t.kind=1∨t.kind=2∨t.kind=5∨t.kind=3∨t.kind=4:=by
 rw[Ty.shape_eq,Bool.and_eq_true] at h
 have h2:=h.1
 split at h2
 ·rename_i n hn
  simp only[arT] at hn
  grind
 grind
theorem shape_cases{t:Ty}(h:t.shape=true):t=natT∨t=listT∨t=unitT∨∃a b,a.shape=true∧b.shape=true∧(t=twoT a b∨t=funT a b):=by
 have h0:=h
 rw[Ty.shape_eq,Bool.and_eq_true] at h0
 rcases shape_kind h with hk|hk|hk|hk|hk
 ·exact .inl ((Ty.eq_iff _ _).2 ⟨hk,shape_zero h (by omega)⟩)
 ·exact .inr (.inl ((Ty.eq_iff _ _).2 ⟨hk,shape_zero h (by omega)⟩))
 ·exact .inr (.inr (.inl ((Ty.eq_iff _ _).2 ⟨hk,shape_zero h (by omega)⟩)))
 ·obtain ⟨a,b,hab⟩:=Ty.args_two h (.inl hk)
  have:=List.all_eq_true.1 h0.2
  rw[hab] at this
  exact .inr (.inr (.inr ⟨a,b,this a (by simp),this b (by simp),.inl ((Ty.eq_iff _ _).2 ⟨hk,hab⟩)⟩))
 ·obtain ⟨a,b,hab⟩:=Ty.args_two h (.inr hk)
  have:=List.all_eq_true.1 h0.2
  rw[hab] at this
  exact .inr (.inr (.inr ⟨a,b,this a (by simp),this b (by simp),.inr ((Ty.eq_iff _ _).2 ⟨hk,hab⟩)⟩))
theorem two_size(a b:Ty):(twoT a b).size=1+(a.size+b.size):=by rfl
theorem fun_size(a b:Ty):(funT a b).size=1+(a.size+b.size):=by rfl
theorem small_cases{t:Ty}(h:t.small):t=natT∨t=listT∨t=unitT∨∃a b,a.shape=true∧b.shape=true∧a.size=1∧b.size=1∧(t=twoT a b∨t=funT a b):=by
 obtain⟨h1,h2⟩:=h
 rcases shape_cases h1 with h3|h3|h3|⟨a,b,ha,hb,h3⟩
 ·grind
 ·grind
 ·grind
 ·have pa:=a.size_pos
  have pb:=b.size_pos
  refine .inr (.inr (.inr ⟨a,b,ha,hb,?_,?_,h3⟩))<;>rcases h3 with rfl|rfl<;>(first|rw[two_size] at h2|rw[fun_size] at h2)<;>omega
theorem small_one{t:Ty}(h:t.shape=true)(h1:t.size=1):t.small:=⟨h,by omega⟩
theorem small_nat:natT.small:=⟨rfl,by decide⟩
theorem small_list:listT.small:=⟨rfl,by decide⟩
theorem smalls_app{g l:List Ty}(h:smalls g)(h1:smalls l):smalls (g++l):=fun t ht=>by
 rcases List.mem_append.1 ht with ht|ht
 ·exact h t ht
 ·exact h1 t ht
theorem smalls_cons{t:Ty}{l:List Ty}(h:t.small)(h1:smalls l):smalls (t::l):=fun x hx=>by
 rcases List.mem_cons.1 hx with rfl|hx
 ·exact h
 ·exact h1 x hx
theorem smalls_nil:smalls []:=fun t ht=>by cases ht
theorem smalls_at{g:List Ty}(h:smalls g){i:Nat}(hi:i<g.length):(at0 g (g.length-1-i)).small:=h _ (at0_mem (by omega))
theorem Dk.type0(d:Dk):(d.type 0).1.shape=true∧(d.type 0).1.size=1:=by
 simp only[Dk.type];(repeat' split)<;>exact⟨rfl,rfl⟩
theorem numOf_lt(d:Dk):∃m,m<3∧numOf (d.next 3).1=numT m:=by
 have h:=Dk.next_bd d 3 (by omega)
 refine⟨(d.next 3).1.toNat,by omega,?_⟩
 rw[numOf,if_pos (by omega)]
theorem varsT_mem{g:List Ty}{t:Ty}{i:Int}(h:i∈varsT g t):∃j:Nat,i=j∧j<g.length∧at0 g (g.length-1-j)=t:=by
 simp only[varsT,List.mem_map,List.mem_filter,List.mem_range,decide_eq_true_eq] at h
 obtain⟨j,⟨h1,h2⟩,rfl⟩:=h
 refine⟨j,rfl,h1,?_⟩
 simp only[at0,List.getD_eq_getElem?_getD,h2,Option.getD_some]
theorem varsT_pick{g:List Ty}{t:Ty}(d:Dk)(h:¬varsT g t=[]):∃j:Nat,(varsT g t).getD (d.next (varsT g t).length).1.toNat 0=j∧j<g.length∧at0 g (g.length-1-j)=t:=by
 have hl:0<(varsT g t).length:=List.length_pos_iff.2 h
 have hb:=Dk.next_bd d (varsT g t).length (by omega)
 have hlt:(d.next (varsT g t).length).1.toNat<(varsT g t).length:=by omega
 have:(varsT g t).getD (d.next (varsT g t).length).1.toNat 0∈varsT g t:=by
  grind
 exact varsT_mem this
theorem findF_some{g:List Ty}{t:Ty}{i:Nat}(h:findF g t=some i):i<g.length∧isFn g t i=true:=by
 have:=List.find?_some h
 have h2:=List.mem_of_find?_eq_some h
 grind
theorem isFn_fun{g:List Ty}{t:Ty}{i:Nat}(hg:smalls g)(hi:i<g.length)(h:isFn g t i=true):∃s,s.shape=true∧s.size=1∧at0 g (g.length-1-i)=funT s t:=by
 simp only[isFn,Bool.and_eq_true,beq_iff_eq,decide_eq_true_eq] at h
 have hs:=smalls_at hg hi
 rcases small_cases hs with h3|h3|h3|⟨a,b,ha,hb,h1,h2,h3|h3⟩
 ·rw [h3] at h;exact absurd h.1 (by decide)
 ·rw [h3] at h;exact absurd h.1 (by decide)
 ·rw [h3] at h;exact absurd h.1 (by decide)
 ·rw [h3] at h;exact absurd h.1 (by simp[twoT])
 ·refine ⟨a,ha,h1,?_⟩
  have:=h.2
  rw[h3] at this ⊢
  simp only[funT,Ty.args_mk,at0_cons1] at this
  grind
abbrev RecMk(rec:MkF)(n:Nat):Prop:=∀d g t,smalls g→t.small→1≤n→(n=1→t.size=1)→Mk n g t (rec d g t).1
theorem Dk.fin_mk{rec:MkF}{n:Nat}{pos:Bool}{d:Dk}{g:List Ty}{t:Ty}(H:RecMk rec n)(hp:pos=true→2≤n)(hg:smalls g)(ht:t.small)(h0:n=0→t.size=1):Mk (n+1) g t (d.fin rec pos g t).1:=by
 rcases small_cases ht with rfl|rfl|rfl|⟨a,b,ha,hb,h1,h2,rfl|rfl⟩
 ·unfold Dk.fin
  rw[if_pos (show natT.kind=1 from rfl)]
  by_cases hpos:pos=true
  ·have hn:=hp hpos
   have hr:∀d,Mk n g natT (rec d g natT).1:=fun d=>H d g natT hg small_nat (by omega) (by omega)
   rw[if_pos hpos]
   split
   ·exact .succ n g _ hn (hr _)
   ·split
    ·exact .plus n g _ _ hn (hr _) (hr _)
    ·split
     ·exact .sub n g _ _ hn (hr _) (hr _)
     ·obtain ⟨m,hm,e⟩:=numOf_lt (d.next 5).2
      simp only[e]
      exact .num n g m hm
  ·rw [if_neg hpos]
   obtain⟨m,hm,e⟩:=numOf_lt d
   simp only[e]
   exact .num n g m hm
 ·unfold Dk.fin
  rw[if_neg (by decide),if_pos (show listT.kind=2 from rfl)]
  by_cases hpos:pos=true
  ·have hn:=hp hpos
   rw[if_pos hpos]
   split
   ·exact .cons n g _ _ hn (H _ g natT hg small_nat (by omega) (by omega)) (H _ g listT hg small_list (by omega) (by omega))
   ·exact .nil n g
  ·rw [if_neg hpos];exact .nil n g
 ·unfold Dk.fin
  rw[if_neg (by decide),if_neg (by decide),if_neg (by decide),if_neg (by decide)]
  exact .unit n g
 ·unfold Dk.fin
  rw[if_neg (by simp[twoT]),if_neg (by simp[twoT]),if_pos (show(twoT a b).kind=3 from rfl)]
  have:n≠0:=fun h=>by have:=h0 h;rw[two_size] at this;omega
  exact .pair n g a b _ _ h1 h2 (H _ g a hg (small_one ha h1) (by omega) fun _=>h1) (H _ g b hg (small_one hb h2) (by omega) fun _=>h2)
 ·unfold Dk.fin
  rw[if_neg (by simp[funT]),if_neg (by simp[funT]),if_neg (by simp[funT]),if_pos (show(funT a b).kind=4 from rfl)]
  have:n≠0:=fun h=>by have:=h0 h;rw[fun_size] at this;omega
  exact .lam n g a b _ h1 h2 (H _ (g++[a]) b (smalls_app hg (smalls_cons (small_one ha h1) smalls_nil)) (small_one hb h2) (by omega) fun _=>h2)
theorem Dk.mid_mk{rec:MkF}{n:Nat}{pos:Bool}{d:Dk}{g:List Ty}{t:Ty}(H:RecMk rec n)(hp:pos=true→2≤n)(hg:smalls g)(ht:t.small)(h0:n=0→t.size=1):Mk (n+1) g t (d.mid rec pos g t).1:=by
 unfold Dk.mid Dk.m0 Dk.m1 Dk.m2 Dk.m3 Dk.m4 Dk.m5
 by_cases hpos:pos=true
 ·have hn:=hp hpos
  have hs:=Dk.type0 (d.next 8).2
  have hss:=small_one hs.1 hs.2
  rw[if_pos hpos]
  split
  ·exact .app n g t _ _ _ hn hs.1 hs.2 (H _ _ _ (smalls_app hg (smalls_cons hss smalls_nil)) ht (by omega) (by omega)) (H _ _ _ hg hss (by omega) (by omega))
  ·split
   ·exact .fst n g t _ _ _ hn hs.1 hs.2 (H _ _ _ hg ht (by omega) (by omega)) (H _ _ _ hg hss (by omega) (by omega))
   ·split
    ·obtain ⟨m,hm,e⟩:=numOf_lt (rec (rec (d.next 8).2 (g++[natT,t]) t).2 g t).2
     simp only[e]
     exact .recu n g t _ _ m hn hm (H _ _ _ (smalls_app hg (smalls_cons small_nat (smalls_cons ht smalls_nil))) ht (by omega) (by omega)) (H _ _ _ hg ht (by omega) (by omega))
    ·split
     ·exact .fold n g t _ _ _ hn (H _ _ _ (smalls_app hg (smalls_cons small_nat (smalls_cons small_list (smalls_cons ht smalls_nil)))) ht (by omega) (by omega)) (H _ _ _ hg ht (by omega) (by omega)) (H _ _ _ hg small_list (by omega) (by omega))
     ·split
      ·exact .snd n g t _ _ _ hn hs.1 hs.2 (H _ _ _ hg hss (by omega) (by omega)) (H _ _ _ hg ht (by omega) (by omega))
      ·split
       ·split
        ·rename_i i hi
         obtain⟨h1,h2⟩:=findF_some hi
         obtain⟨s,h3,h4,h5⟩:=isFn_fun hg h1 h2
         simp only[h5,funT,Ty.args_mk,at0_cons0]
         exact .ctx n g t s _ hn i h1 h5 h4 (H _ _ _ hg (small_one h3 h4) (by omega) (by omega))
        ·exact Dk.fin_mk H hp hg ht h0
       ·exact Dk.fin_mk H hp hg ht h0
 ·rw [if_neg hpos];exact Dk.fin_mk H hp hg ht h0
theorem Dk.gen_mk{rec:MkF}{n:Nat}{pos:Bool}{d:Dk}{g:List Ty}{t:Ty}(H:RecMk rec n)(hp:pos=true→2≤n)(hg:smalls g)(ht:t.small)(h0:n=0→t.size=1):Mk (n+1) g t (d.gen rec pos g t).1:=by
 unfold Dk.gen
 split
 ·exact Dk.mid_mk H hp hg ht h0
 ·rename_i hl
  split
  ·obtain ⟨j,e,h1,h2⟩:=varsT_pick (d.next 3).2 hl
   simp only[e]
   exact .var n g t j h1 h2
  ·exact Dk.mid_mk H hp hg ht h0
theorem Dk.tm_mk:∀n,RecMk (Dk.tm n) n
 |0=>fun d g t _ _ h _=>by omega
 |n+1=>fun d g t hg ht _ h1=>Dk.gen_mk (Dk.tm_mk n) (by simp) hg ht (by omega)
theorem numT_full:∀m,(numT m).full=2*(m+1)
 |0=>rfl
 |m+1=>by simp[numT,Tm.full,Tm.fulls,numT_full m,Ty.size,Ty.sizes];omega
theorem Mk.full{n:Nat}{g:List Ty}{t:Ty}{x:Tm}(h:Mk n g t x):smalls g→t.small→x.full+20≤20*3^n:=by
 have e1:noTy.size=1:=rfl
 have e2:(Ty.mk 0 []).size=1:=rfl
 have p:∀n,1≤3^n:=fun n=>Nat.one_le_pow _ _ (by omega)
 have q:∀n,3^(n+1)=3*3^n:=fun n=>by omega
 induction h with
 |var n g t i hi h=>intro hg ht;have:=p n;have:=q n;simp[vT,Tm.full,Tm.fulls,e2];omega
 |app n g t s a b hn hs h1 ha hb iha ihb=>
  intro hg ht
  have:=iha (smalls_app hg (smalls_cons (small_one hs h1) smalls_nil)) ht
  have:=ihb hg (small_one hs h1)
  have:=p n;have:=q n
  simp[apT,lmT,Tm.full,Tm.fulls,e2,h1];omega
 |fst n g t s a b hn hs h1 ha hb iha ihb=>
  intro hg ht
  have:=iha hg ht
  have:=ihb hg (small_one hs h1)
  have:=p n;have:=q n
  simp[nT,Tm.full,Tm.fulls,e2];omega
 |snd n g t s a b hn hs h1 ha hb iha ihb=>
  intro hg ht
  have:=iha hg (small_one hs h1)
  have:=ihb hg ht
  have:=p n;have:=q n
  simp[nT,Tm.full,Tm.fulls,e2];omega
 |recu n g t a b m hn hm ha hb iha ihb=>
  intro hg ht
  have:=iha (smalls_app hg (smalls_cons small_nat (smalls_cons ht smalls_nil))) ht
  have:=ihb hg ht
  have:=ht.2
  have:=p n;have:=q n
  have e3:natT.size=1:=rfl
  simp[hT,lmT,Tm.full,Tm.fulls,e3,numT_full];omega
 |fold n g t a b c hn ha hb hc iha ihb ihc=>
  intro hg ht
  have:=iha (smalls_app hg (smalls_cons small_nat (smalls_cons small_list (smalls_cons ht smalls_nil)))) ht
  have:=ihb hg ht
  have:=ihc hg small_list
  have:=ht.2
  have:=p n;have:=q n
  have e3:natT.size=1:=rfl
  have e4:listT.size=1:=rfl
  simp[hT,lmT,Tm.full,Tm.fulls,e3,e4];omega
 |ctx n g t s a hn i hi h h1 ha iha=>
  intro hg ht
  have hs:s.shape=true:=by
   have:=smalls_at hg hi
   rw[h] at this
   have:=List.all_eq_true.1 ((Bool.and_eq_true _ _).mp ((Ty.shape_eq _).symm.trans this.1)).2 s (by simp[funT])
   omega
  have:=iha hg (small_one hs h1)
  have:=p n;have:=q n
  simp[apT,vT,Tm.full,Tm.fulls,e2];omega
 |succ n g a hn ha iha=>intro hg ht;have:=iha hg small_nat;have:=p n;have:=q n;simp[sT,Tm.full,Tm.fulls,e2];omega
 |plus n g a b hn ha hb iha ihb=>
  intro hg ht
  have:=iha hg small_nat
  have:=ihb hg small_nat
  have:=p n;have:=q n
  have e5:plusT.full≤18:=by decide
  simp[apT,Tm.full,Tm.fulls,e2];omega
 |sub n g a b hn ha hb iha ihb=>
  intro hg ht
  have:=iha hg small_nat
  have:=ihb hg small_nat
  have:=p n;have:=q n
  have e5:subT.full≤36:=by decide
  simp[apT,Tm.full,Tm.fulls,e2];omega
 |num n g m hm=>intro hg ht;have:=p n;have:=q n;rw[numT_full];omega
 |cons n g a b hn ha hb iha ihb=>
  intro hg ht
  have:=iha hg small_nat
  have:=ihb hg small_list
  have:=p n;have:=q n
  simp[nT,Tm.full,Tm.fulls,e2];omega
 |nil n g=>intro hg ht;have:=p n;have:=q n;simp[nT,Tm.full,Tm.fulls,e2];omega
 |pair n g s t a b h1 h2 ha hb iha ihb=>
  intro hg ht
  have hs:=List.all_eq_true.1 ((Bool.and_eq_true _ _).mp ((Ty.shape_eq _).symm.trans ht.1)).2
  have:=iha hg (small_one (hs s (by simp[twoT])) h1)
  have:=ihb hg (small_one (hs t (by simp[twoT])) h2)
  have:=p n;have:=q n
  simp[nT,Tm.full,Tm.fulls,e2];omega
 |lam n g s t a h1 h2 ha iha=>
  intro hg ht
  have hs:=List.all_eq_true.1 ((Bool.and_eq_true _ _).mp ((Ty.shape_eq _).symm.trans ht.1)).2
  have:=iha (smalls_app hg (smalls_cons (small_one (hs s (by simp[funT])) h1) smalls_nil)) (small_one (hs t (by simp[funT])) h2)
  have:=p n;have:=q n
  simp[lmT,Tm.full,Tm.fulls,h1];omega
 |unit n g=>intro hg ht;have:=p n;have:=q n;simp[nT,Tm.full,Tm.fulls,e2];omega
theorem two_args_shape{k:Int}{a b:Ty}(h:(Ty.mk k [a,b]).shape=true):a.shape=true∧b.shape=true:=by
 have hs:=List.all_eq_true.1 ((Bool.and_eq_true _ _).mp ((Ty.shape_eq _).symm.trans h)).2
 simp_all
theorem Mk.ind{P:Nat→List Ty→Ty→Tm→Prop}
 (var:∀n g t (i:Nat),i<g.length→at0 g (g.length-1-i)=t→smalls g→t.small→P (n+1) g t (vT i))
 (app:∀n g t s a b,2≤n→s.shape=true→s.size=1→smalls g→t.small→P n (g++[s]) t a→P n g s b→P (n+1) g t (apT (lmT s a) b))
 (fst:∀n g t s a b,2≤n→s.shape=true→s.size=1→smalls g→t.small→P n g t a→P n g s b→P (n+1) g t (nT 11 [nT 10 [a,b]]))
 (snd:∀n g t s a b,2≤n→s.shape=true→s.size=1→smalls g→t.small→P n g s a→P n g t b→P (n+1) g t (nT 12 [nT 10 [a,b]]))
 (recu:∀n g t a b m,2≤n→m<3→smalls g→t.small→P n (g++[natT,t]) t a→P n g t b→P (n+1) g t (hT 6 t [b,lmT natT (lmT t a),numT m]))
 (fold:∀n g t a b c,2≤n→smalls g→t.small→P n (g++[natT,listT,t]) t a→P n g t b→P n g listT c→P (n+1) g t (hT 9 t [b,lmT natT (lmT listT (lmT t a)),c]))
 (ctx:∀n g t s a (i:Nat),2≤n→i<g.length→at0 g (g.length-1-i)=funT s t→s.shape=true→s.size=1→smalls g→t.small→P n g s a→P (n+1) g t (apT (vT i) a))
 (succ:∀n g a,2≤n→smalls g→P n g natT a→P (n+1) g natT (sT a))
 (plus:∀n g a b,2≤n→smalls g→P n g natT a→P n g natT b→P (n+1) g natT (apT (apT plusT a) b))
 (sub:∀n g a b,2≤n→smalls g→P n g natT a→P n g natT b→P (n+1) g natT (apT (apT subT a) b))
 (num:∀n g m,m<3→smalls g→P (n+1) g natT (numT m))
 (cons:∀n g a b,2≤n→smalls g→P n g natT a→P n g listT b→P (n+1) g listT (nT 8 [a,b]))
 (nil:∀n g,smalls g→P (n+1) g listT (nT 7 []))
 (pair:∀n g s t a b,s.shape=true→t.shape=true→s.size=1→t.size=1→1≤n→smalls g→P n g s a→P n g t b→P (n+1) g (twoT s t) (nT 10 [a,b]))
 (lam:∀n g s t a,s.shape=true→t.shape=true→s.size=1→t.size=1→1≤n→smalls g→P n (g++[s]) t a→P (n+1) g (funT s t) (lmT s a))
 (unit:∀n g,smalls g→P (n+1) g unitT (nT 13 []))
 {n:Nat} {g:List Ty} {t:Ty} {x:Tm} (h:Mk n g t x):smalls g→t.small→P n g t x:=by
 have one:∀{n g t x},Mk n g t x→1≤n:=fun h=>by cases h<;>omega
 induction h with
 |var n g t i hi h=>grind
 |app n g t s a b hn hs h1 ha hb iha ihb=>exact fun hg ht=>app n g t s a b hn hs h1 hg ht (iha (smalls_app hg (smalls_cons (small_one hs h1) smalls_nil)) ht) (ihb hg (small_one hs h1))
 |fst n g t s a b hn hs h1 ha hb iha ihb=>exact fun hg ht=>fst n g t s a b hn hs h1 hg ht (iha hg ht) (ihb hg (small_one hs h1))
 |snd n g t s a b hn hs h1 ha hb iha ihb=>exact fun hg ht=>snd n g t s a b hn hs h1 hg ht (iha hg (small_one hs h1)) (ihb hg ht)
 |recu n g t a b m hn hm ha hb iha ihb=>exact fun hg ht=>recu n g t a b m hn hm hg ht (iha (smalls_app hg (smalls_cons small_nat (smalls_cons ht smalls_nil))) ht) (ihb hg ht)
 |fold n g t a b c hn ha hb hc iha ihb ihc=>exact fun hg ht=>fold n g t a b c hn hg ht (iha (smalls_app hg (smalls_cons small_nat (smalls_cons small_list (smalls_cons ht smalls_nil)))) ht) (ihb hg ht) (ihc hg small_list)
 |ctx n g t s a hn i hi h h1 ha iha=>
  intro hg ht
  have hs:s.shape=true:=by
   have:=smalls_at hg hi
   rw[h] at this
   exact(two_args_shape this.1).1
  exact ctx n g t s a i hn hi h hs h1 hg ht (iha hg (small_one hs h1))
 |succ n g a hn ha iha=>grind
 |plus n g a b hn ha hb iha ihb=>grind
 |sub n g a b hn ha hb iha ihb=>grind
 |num n g m hm=>grind
 |cons n g a b hn ha hb iha ihb=>exact fun hg ht=>cons n g a b hn hg (iha hg small_nat) (ihb hg small_list)
 |nil n g=>grind
 |pair n g s t a b h1 h2 ha hb iha ihb=>exact fun hg ht=>have hs:=two_args_shape ht.1;pair n g s t a b hs.1 hs.2 h1 h2 (one ha) hg (iha hg (small_one hs.1 h1)) (ihb hg (small_one hs.2 h2))
 |lam n g s t a h1 h2 ha iha=>exact fun hg ht=>have hs:=two_args_shape ht.1;lam n g s t a hs.1 hs.2 h1 h2 (one ha) hg (iha (smalls_app hg (smalls_cons (small_one hs.1 h1) smalls_nil)) (small_one hs.2 h2))
 |unit n g=>grind
@[simp] theorem funT_kind(a b:Ty):(funT a b).kind=4:=rfl
@[simp] theorem funT_args(a b:Ty):(funT a b).args=[a,b]:=rfl
@[simp] theorem twoT_kind(a b:Ty):(twoT a b).kind=3:=rfl
@[simp] theorem twoT_args(a b:Ty):(twoT a b).args=[a,b]:=rfl
theorem okT_ok{t:Ty}(h:t.err=0):okT t=(t,0):=if_pos h
theorem small_err{t:Ty}(h:t.small):t.err=0:=(Ty.err_iff t).2 ⟨h.1,by have:=h.2;omega⟩
theorem fun_shape{a b:Ty}(ha:a.shape=true)(hb:b.shape=true):(funT a b).shape=true:=by simp[Ty.shape_eq (funT a b),ha,hb,arT]
theorem two_shape{a b:Ty}(ha:a.shape=true)(hb:b.shape=true):(twoT a b).shape=true:=by simp[Ty.shape_eq (twoT a b),ha,hb,arT]
theorem fun_err{a b:Ty}(ha:a.shape=true)(hb:b.shape=true)(h:a.size+b.size≤60):(funT a b).err=0:=(Ty.err_iff _).2 ⟨fun_shape ha hb,by rw[fun_size];omega⟩
theorem two_err{a b:Ty}(ha:a.shape=true)(hb:b.shape=true)(h:a.size+b.size≤60):(twoT a b).err=0:=(Ty.err_iff _).2 ⟨two_shape ha hb,by rw[two_size];omega⟩
def look(g:List Ty)(i:Nat):Ty:=at0 g (g.length-1-i)
theorem inf_var(g:List Ty)(i:Nat)(h:i<g.length):(vT i).inf g=(look g i,0):=by
 rw[Tm.inf_eq]
 have h1:¬((i:Int)≥(g.length:Int)):=by omega
 simp[vT,h1,look]
theorem look_last(g:List Ty)(a:Ty):look (g++[a]) 0=a:=by simp[look,at0]
theorem look_succ(g:List Ty)(a:Ty)(i:Nat)(h:i<g.length):look (g++[a]) (i+1)=look g i:=by
 have e:g.length+1-1-(i+1)=g.length-1-i:=by omega
 simp only[look,at0,List.length_append,List.length_cons,List.length_nil,Nat.zero_add,e,List.getD_eq_getElem?_getD]
 grind
theorem inf_v0(g:List Ty)(a:Ty):(vT 0).inf (g++[a])=(a,0):=by
 have:=inf_var (g++[a]) 0 (by simp)
 rw[look_last] at this;omega
theorem inf_v1(g:List Ty)(a b:Ty):(vT 1).inf (g++[a]++[b])=(a,0):=by
 have:=inf_var (g++[a]++[b]) 1 (by simp)
 rw[look_succ (g++[a]) b 0 (by simp),look_last] at this;omega
theorem inf_lam{g:List Ty}{s t:Ty}{x:Tm}(h:x.inf (g++[s])=(t,0))(he:(funT s t).err=0):(lmT s x).inf g=(funT s t,0):=by
 rw[Tm.inf_eq];simp[lmT,Tm.infs,h,okT_ok he]
theorem inf_app{g:List Ty}{s t:Ty}{f x:Tm}(hf:f.inf g=(funT s t,0))(hx:x.inf g=(s,0)):(apT f x).inf g=(t,0):=by
 rw[Tm.inf_eq];simp[apT,Tm.infs,hf,hx,rule]
theorem inf_succ{g:List Ty}{x:Tm}(h:x.inf g=(natT,0)):(sT x).inf g=(natT,0):=by
 rw[Tm.inf_eq];simp[sT,Tm.infs,h,rule]
theorem inf_zero(g:List Ty):zT.inf g=(natT,0):=by
 rfl
theorem inf_num(g:List Ty):∀m,(numT m).inf g=(natT,0)
 |0=>inf_zero g
 |m+1=>inf_succ (inf_num g m)
theorem inf_rec{g:List Ty}{t:Ty}{b f x:Tm}(hb:b.inf g=(t,0))(hf:f.inf g=(funT natT (funT t t),0))(hx:x.inf g=(natT,0)):(hT 6 t [b,f,x]).inf g=(t,0):=by
 rw[Tm.inf_eq];simp[hT,Tm.infs,hb,hf,hx,rule]
theorem inf_fold{g:List Ty}{t:Ty}{b f x:Tm}(hb:b.inf g=(t,0))(hf:f.inf g=(funT natT (funT listT (funT t t)),0))(hx:x.inf g=(listT,0)):(hT 9 t [b,f,x]).inf g=(t,0):=by
 rw[Tm.inf_eq];simp[hT,Tm.infs,hb,hf,hx,rule]
theorem inf_pair{g:List Ty}{s t:Ty}{a b:Tm}(ha:a.inf g=(s,0))(hb:b.inf g=(t,0))(he:(twoT s t).err=0):(nT 10 [a,b]).inf g=(twoT s t,0):=by
 rw[Tm.inf_eq];simp[nT,Tm.infs,ha,hb,rule,okT_ok he]
theorem inf_fst{g:List Ty}{s t:Ty}{x:Tm}(h:x.inf g=(twoT s t,0)):(nT 11 [x]).inf g=(s,0):=by
 rw[Tm.inf_eq];simp[nT,Tm.infs,h,rule]
theorem inf_snd{g:List Ty}{s t:Ty}{x:Tm}(h:x.inf g=(twoT s t,0)):(nT 12 [x]).inf g=(t,0):=by
 rw[Tm.inf_eq];simp[nT,Tm.infs,h,rule]
theorem inf_cons{g:List Ty}{a b:Tm}(ha:a.inf g=(natT,0))(hb:b.inf g=(listT,0)):(nT 8 [a,b]).inf g=(listT,0):=by
 rw[Tm.inf_eq];simp[nT,Tm.infs,ha,hb,rule]
theorem nat_fun_err{a:Ty}(ha:a.shape=true)(h:a.size≤30):(funT natT a).err=0:=fun_err rfl ha (by have:natT.size=1:=rfl;omega)
theorem inf_plus(g:List Ty):plusT.inf g=(funT natT (funT natT natT),0):=by
 refine inf_lam (s:=natT) (inf_lam (s:=natT) (inf_rec (t:=natT) (inf_v1 g natT natT) (inf_lam (s:=natT) (inf_lam (s:=natT) (inf_succ (inf_v0 _ _)) rfl) rfl) (inf_v0 _ _)) rfl) rfl
theorem inf_pred(g:List Ty):predT.inf g=(funT natT natT,0):=by
 refine inf_lam (s:=natT) (inf_rec (t:=natT) (inf_zero _) (inf_lam (s:=natT) (inf_lam (s:=natT) (inf_v1 _ natT natT) rfl) rfl) (inf_v0 _ _)) rfl
theorem inf_sub(g:List Ty):subT.inf g=(funT natT (funT natT natT),0):=by
 refine inf_lam (s:=natT) (inf_lam (s:=natT) (inf_rec (t:=natT) (inf_v1 g natT natT) (inf_lam (s:=natT) (inf_lam (s:=natT) (inf_app (inf_pred _) (inf_v0 _ _)) rfl) rfl) (inf_v0 _ _)) rfl) rfl
theorem Mk.inf{n:Nat}{g:List Ty}{t:Ty}{x:Tm}(h:Mk n g t x)(hg:smalls g)(ht:t.small):x.inf g=(t,0):=by
 refine Mk.ind (P:=fun n g t x=>x.inf g=(t,0)) ?_ ?_ ?_ ?_ ?_ ?_ ?_ ?_ ?_ ?_ ?_ ?_ ?_ ?_ ?_ ?_ h hg ht
 ·intro n g t i hi h _ _;rw[inf_var g i hi];rw[←h];rfl
 ·intro n g t s a b _ hs h1 _ ht ha hb;exact inf_app (inf_lam ha (fun_err hs ht.1 (by have:=ht.2;omega))) hb
 ·intro n g t s a b _ hs h1 _ ht ha hb;exact inf_fst (inf_pair ha hb (two_err ht.1 hs (by have:=ht.2;omega)))
 ·intro n g t s a b _ hs h1 _ ht ha hb;exact inf_snd (inf_pair ha hb (two_err hs ht.1 (by have:=ht.2;omega)))
 ·intro n g t a b m _ _ _ ht ha hb
  have h2:=ht.2
  refine inf_rec hb (inf_lam (inf_lam (by grind) (fun_err ht.1 ht.1 (by omega))) (nat_fun_err (fun_shape ht.1 ht.1) (by rw[fun_size];omega))) (inf_num g m)
 ·intro n g t a b c _ _ ht ha hb hc
  have h2:=ht.2
  have e1:listT.size=1:=rfl
  refine inf_fold hb (inf_lam (inf_lam (inf_lam (by grind) (fun_err ht.1 ht.1 (by omega))) (fun_err rfl (fun_shape ht.1 ht.1) (by rw[fun_size];omega))) (nat_fun_err (fun_shape rfl (fun_shape ht.1 ht.1)) (by rw[fun_size,fun_size];omega))) hc
 ·intro n g t s a i _ hi h _ _ _ _ ha;exact inf_app (s:=s) (by rw[inf_var g i hi];rw[←h];rfl) ha
 ·intro n g a _ _ ha;exact inf_succ ha
 ·intro n g a b _ _ ha hb;exact inf_app (inf_app (inf_plus g) ha) hb
 ·intro n g a b _ _ ha hb;exact inf_app (inf_app (inf_sub g) ha) hb
 ·intro n g m _ _;exact inf_num g m
 ·intro n g a b _ _ ha hb;exact inf_cons ha hb
 ·intro n g _;rfl
 ·intro n g s t a b hs ht h1 h2 _ _ ha hb;exact inf_pair ha hb (two_err hs ht (by omega))
 ·intro n g s t a hs ht h1 h2 _ _ ha;exact inf_lam ha (fun_err hs ht (by omega))
 ·intro n g _;rfl
theorem noTy_isNo:(Ty.mk 0 []).isNo=true:=rfl
theorem shape_nT{k:Int}{l:List Tm}(hk:arK k=some l.length)(ht:typedK k=false)(h:∀x∈l,x.shape=true):(nT k l).shape=true:=by
 have:l.all Tm.shape=true:=List.all_eq_true.2 h
 simp[nT,Tm.shape_eq,Tm.head,hk,ht,noTy_isNo,this]
theorem ok_of{t:Ty}(h1:t.shape=true)(h2:t.size≤64):t.ok=true:=by simp[Ty.ok,h1,h2]
theorem shape_hT{k:Int}{s:Ty}{l:List Tm}(hk:arK k=some l.length)(ht:typedK k=true)(hs:s.ok=true)(h:∀x∈l,x.shape=true):(hT k s l).shape=true:=by
 have:l.all Tm.shape=true:=List.all_eq_true.2 h
 simp[hT,Tm.shape_eq,Tm.head,hk,ht,hs,this]
theorem shape_vT(i:Int)(h:0≤i):(vT i).shape=true:=by
 have:typedK 1=false:=rfl
 simp[vT,Tm.shape_eq,Tm.head,arK,this,noTy_isNo,h]
theorem shape_num:∀m,(numT m).shape=true
 |0=>rfl
 |m+1=>shape_nT (k:=5) (l:=[numT m]) rfl rfl (by simp[shape_num m])
theorem shape_two{k:Int}{a b:Tm}(hk:arK k=some 2)(ht:typedK k=false)(ha:a.shape=true)(hb:b.shape=true):(nT k [a,b]).shape=true:=shape_nT hk ht (by grind)
theorem shape_one'{k:Int}{a:Tm}(hk:arK k=some 1)(ht:typedK k=false)(ha:a.shape=true):(nT k [a]).shape=true:=shape_nT hk ht (by grind)
theorem shape_lm{s:Ty}{a:Tm}(hs:s.ok=true)(ha:a.shape=true):(lmT s a).shape=true:=shape_hT (k:=2) rfl rfl hs (by grind)
theorem shape_h3{k:Int}{s:Ty}{a b c:Tm}(hk:arK k=some 3)(ht:typedK k=true)(hs:s.ok=true)(ha:a.shape=true)(hb:b.shape=true)(hc:c.shape=true):(hT k s [a,b,c]).shape=true:=shape_hT hk ht hs (by grind)
theorem Mk.shape{n:Nat}{g:List Ty}{t:Ty}{x:Tm}(h:Mk n g t x)(hg:smalls g)(ht:t.small):x.shape=true:=by
 have ok:∀{t:Ty},t.small→t.ok=true:=fun h=>ok_of h.1 (by have:=h.2;omega)
 refine Mk.ind (P:=fun n g t x=>x.shape=true) ?_ ?_ ?_ ?_ ?_ ?_ ?_ ?_ ?_ ?_ ?_ ?_ ?_ ?_ ?_ ?_ h hg ht
 ·intro n g t i hi h _ _;exact shape_vT _ (by omega)
 ·intro n g t s a b _ hs h1 _ ht ha hb;exact shape_two (k:=3) rfl rfl (shape_lm (ok (small_one hs h1)) ha) hb
 ·intro n g t s a b _ hs h1 _ ht ha hb;exact shape_one' rfl rfl (shape_two rfl rfl ha hb)
 ·intro n g t s a b _ hs h1 _ ht ha hb;exact shape_one' rfl rfl (shape_two rfl rfl ha hb)
 ·intro n g t a b m _ _ _ ht ha hb;exact shape_h3 rfl rfl (ok ht) hb (shape_lm rfl (shape_lm (ok ht) ha)) (shape_num m)
 ·intro n g t a b c _ _ ht ha hb hc;exact shape_h3 rfl rfl (ok ht) hb (shape_lm rfl (shape_lm rfl (shape_lm (ok ht) ha))) hc
 ·intro n g t s a i _ hi h _ _ _ _ ha;exact shape_two (k:=3) rfl rfl (shape_vT _ (by omega)) ha
 ·intro n g a _ _ ha;exact shape_one' (k:=5) rfl rfl ha
 ·intro n g a b _ _ ha hb;exact shape_two (k:=3) rfl rfl (shape_two (k:=3) rfl rfl rfl ha) hb
 ·intro n g a b _ _ ha hb;exact shape_two (k:=3) rfl rfl (shape_two (k:=3) rfl rfl rfl ha) hb
 ·intro n g m _ _;exact shape_num m
 ·intro n g a b _ _ ha hb;exact shape_two rfl rfl ha hb
 ·intro n g _;rfl
 ·intro n g s t a b hs ht h1 h2 _ _ ha hb;exact shape_two rfl rfl ha hb
 ·intro n g s t a hs ht h1 h2 _ _ ha;exact shape_lm (ok (small_one hs h1)) ha
 ·intro n g _;rfl
def s1:Nat→Nat
 |0=>3|1=>3|2=>3|3=>24|n+4=>3*s1 (n+3)+4
def s3:Nat→Nat
 |0=>7|1=>7|2=>7|3=>24|n+4=>3*s1 (n+3)+4
theorem s1_lo:∀n,3≤n→24≤s1 n
 |0,h=>by omega
 |1,h=>by omega
 |2,h=>by omega
 |3,_=>by decide
 |n+4,_=>by have:=s1_lo (n+3) (by omega);simp only[s1];omega
theorem s3_eq:∀n,3≤n→s3 n=s1 n
 |0,h=>by omega
 |1,h=>by omega
 |2,h=>by omega
 |3,_=>rfl
 |n+4,_=>rfl
theorem s_step(n:Nat)(hn:2≤n):3*s1 n+4≤s1 (n+1)∧2*s1 n+18≤s1 (n+1)∧2*s3 n+s1 n+4≤s3 (n+1)∧s1 (n+1)≤s3 (n+1)∧3≤s1 n∧s1 n≤s3 n∧2*s3 n+6≤s3 (n+1)∧s3 n+s1 n+2≤s3 (n+1):=by
 match n,hn with
 |2,_=>decide
 |n+3,_=>
  have h1:=s1_lo (n+3) (by omega)
  have h2:=s3_eq (n+3) (by omega)
  have h3:s1 (n+3+1)=3*s1 (n+3)+4:=rfl
  have h4:s3 (n+3+1)=3*s1 (n+3)+4:=rfl
  omega
theorem s_any(n:Nat):3≤s1 n∧s1 n≤s3 n∧7≤s3 n:=by
 match n with
 |0=>decide
 |1=>decide
 |2=>decide
 |n+3=>have h1:=s1_lo (n+3) (by omega);have h2:=s3_eq (n+3) (by omega);omega
theorem s_any1(n:Nat)(hn:1≤n):2*s1 n+1≤s3 (n+1):=by
 match n,hn with
 |1,_=>decide
 |n+2,_=>have:=s_step (n+2) (by omega);omega
theorem numT_size:∀m,(numT m).size=m+1
 |0=>rfl
 |m+1=>by simp[numT,Tm.size,Tm.sizes,numT_size m];omega
theorem Mk.size{n:Nat}{g:List Ty}{t:Ty}{x:Tm}(h:Mk n g t x)(hg:smalls g)(ht:t.small):x.size≤s3 n∧(t.size=1→x.size≤s1 n):=by
 have e1:natT.size=1:=rfl
 have e2:listT.size=1:=rfl
 refine Mk.ind (P:=fun n g t x=>x.size≤s3 n∧(t.size=1→x.size≤s1 n)) ?_ ?_ ?_ ?_ ?_ ?_ ?_ ?_ ?_ ?_ ?_ ?_ ?_ ?_ ?_ ?_ h hg ht
 ·intro n g t i hi h _ _;have:=s_any (n+1);simp[vT,Tm.size,Tm.sizes];omega
 ·intro n g t s a b hn hs h1 _ ht ha hb;have:=s_step n hn;have:=hb.2 h1;simp[apT,lmT,Tm.size,Tm.sizes];omega
 ·intro n g t s a b hn hs h1 _ ht ha hb;have:=s_step n hn;have:=hb.2 h1;simp[nT,Tm.size,Tm.sizes];omega
 ·intro n g t s a b hn hs h1 _ ht ha hb;have:=s_step n hn;have:=ha.2 h1;simp[nT,Tm.size,Tm.sizes];omega
 ·intro n g t a b m hn hm _ ht ha hb;have:=s_step n hn;simp[hT,lmT,Tm.size,Tm.sizes,numT_size];omega
 ·intro n g t a b c hn _ ht ha hb hc;have:=s_step n hn;have:=hc.2 e2;simp[hT,lmT,Tm.size,Tm.sizes];omega
 ·intro n g t s a i hn hi h _ h1 _ _ ha;have:=s_step n hn;have:=ha.2 h1;simp[apT,vT,Tm.size,Tm.sizes];omega
 ·intro n g a hn _ ha;have:=s_step n hn;have:=ha.2 e1;simp[sT,Tm.size,Tm.sizes];omega
 ·intro n g a b hn _ ha hb;have:=s_step n hn;have:=ha.2 e1;have:=hb.2 e1;have:plusT.size=9:=rfl;simp[apT,Tm.size,Tm.sizes];omega
 ·intro n g a b hn _ ha hb;have:=s_step n hn;have:=ha.2 e1;have:=hb.2 e1;have:subT.size=16:=rfl;simp[apT,Tm.size,Tm.sizes];omega
 ·intro n g m hm _;have:=s_any (n+1);rw[numT_size];omega
 ·intro n g a b hn _ ha hb;have:=s_step n hn;have:=ha.2 e1;have:=hb.2 e2;simp[nT,Tm.size,Tm.sizes];omega
 ·intro n g _;have:=s_any (n+1);simp[nT,Tm.size,Tm.sizes];omega
 ·intro n g s t a b hs ht h1 h2 hn _ ha hb;have:=s_any1 n hn;have:=ha.2 h1;have:=hb.2 h2;rw[two_size];simp[nT,Tm.size,Tm.sizes];omega
 ·intro n g s t a hs ht h1 h2 hn _ ha;have:=s_any1 n hn;have:=ha.2 h2;rw[fun_size];simp[lmT,Tm.size,Tm.sizes];omega
 ·intro n g _;have:=s_any (n+1);simp[nT,Tm.size,Tm.sizes];omega
def c1:Nat→Nat
 |0=>1|1=>1|2=>1|n+3=>3*c1 (n+2)
def c3:Nat→Nat
 |0=>1|1=>1|2=>2|n+3=>2*c3 (n+2)+c1 (n+2)
theorem c1_pos:∀n,1≤c1 n
 |0=>by decide
 |1=>by decide
 |2=>by decide
 |n+3=>by have:=c1_pos (n+2);simp only[c1];omega
theorem c_le:∀n,c1 n≤c3 n
 |0=>by decide
 |1=>by decide
 |2=>by decide
 |n+3=>by have:=c_le (n+2);simp only[c1,c3];omega
theorem c_step(n:Nat)(hn:2≤n):3*c1 n≤c1 (n+1)∧2*c3 n+c1 n≤c3 (n+1):=by
 match n,hn with
 |n+2,_=>exact⟨Nat.le_refl _,Nat.le_refl _⟩
theorem c_any(n:Nat)(hn:1≤n):2*c1 n≤c3 (n+1):=by
 match n,hn with
 |1,_=>decide
 |n+2,_=>have:=c_step (n+2) (by omega);have:=c_le (n+2);omega
theorem cnt_node(at_ b k i:Int)(h:Ty)(xs:List Tm)(hk:k≠1):cnt at_ ((Tm.mk k i h xs).vars b)=(xs.map fun x=>cnt at_ (x.vars (up k b))).sum:=by
 rw[Tm.vars_eq]
 simp only[Tm.kind_mk,Tm.args_mk,hk,if_false,List.nil_append]
 induction xs with
 |nil=>rfl
 |cons x l ih=>simp only[List.flatMap_cons,cnt_append,List.map_cons,List.sum_cons,ih]
theorem up_ne{k b:Int}(h:k≠2):up k b=b:=if_neg h
theorem cnt_nT(at_ b k:Int)(xs:List Tm)(hk:k≠1)(h2:k≠2):cnt at_ ((nT k xs).vars b)=(xs.map fun x=>cnt at_ (x.vars b)).sum:=by
 have:=cnt_node at_ b k 0 (.mk 0 []) xs hk
 rw[up_ne h2] at this;exact this
theorem cnt_hT(at_ b k:Int)(s:Ty)(xs:List Tm)(hk:k≠1)(h2:k≠2):cnt at_ ((hT k s xs).vars b)=(xs.map fun x=>cnt at_ (x.vars b)).sum:=by
 have:=cnt_node at_ b k 0 s xs hk
 rw[up_ne h2] at this;exact this
theorem cnt_lm(at_ b:Int)(s:Ty)(x:Tm):cnt at_ ((lmT s x).vars b)=cnt at_ (x.vars (b+1)):=by
 have:=cnt_node at_ b 2 0 s [x] (by omega)
 refine this.trans ?_
 rfl
theorem cnt_apT(at_ b:Int)(f x:Tm):cnt at_ ((apT f x).vars b)=cnt at_ (f.vars b)+cnt at_ (x.vars b):=by
 have:=cnt_nT at_ b 3 [f,x] (by omega) (by omega)
 refine this.trans ?_
 simp
theorem cnt_vT(at_ b i:Int):cnt at_ ((vT i).vars b)=if i-b=at_ then 1 else 0:=by
 rw[Tm.vars_eq];simp only[vT,Tm.kind_mk,Tm.index_mk,Tm.args_mk,if_true,List.flatMap_nil,List.append_nil]
 exact cnt_one at_ (i,b)
theorem cnt_num(at_ b:Int):∀m,cnt at_ ((numT m).vars b)=0
 |0=>(cnt_nT at_ b 4 [] (by omega) (by omega)).trans (by simp)
 |m+1=>(cnt_nT at_ b 5 [numT m] (by omega) (by omega)).trans (by simp[cnt_num at_ b m])
theorem cnt_plus(at_ b:Int)(hb:0≤b)(ha:0≤at_):cnt at_ (plusT.vars b)=0:=by
 have e1:plusT=lmT natT (lmT natT (hT 6 natT [vT 1,lmT natT (lmT natT (nT 5 [vT 0])),vT 0])):=rfl
 rw[e1,cnt_lm,cnt_lm,cnt_hT at_ _ 6 _ _ (by omega) (by omega)]
 simp only[List.map_cons,List.map_nil,List.sum_cons,List.sum_nil,cnt_lm,cnt_vT,cnt_nT at_ _ 5 _ (by omega) (by omega)]
 grind
theorem cnt_pred(at_ b:Int)(hb:0≤b)(ha:0≤at_):cnt at_ (predT.vars b)=0:=by
 have e1:predT=lmT natT (hT 6 natT [nT 4 [],lmT natT (lmT natT (vT 1)),vT 0]):=rfl
 rw[e1,cnt_lm,cnt_hT at_ _ 6 _ _ (by omega) (by omega)]
 simp only[List.map_cons,List.map_nil,List.sum_cons,List.sum_nil,cnt_lm,cnt_vT,cnt_nT at_ _ 4 _ (by omega) (by omega)]
 grind
theorem cnt_sub(at_ b:Int)(hb:0≤b)(ha:0≤at_):cnt at_ (subT.vars b)=0:=by
 have e1:subT=lmT natT (lmT natT (hT 6 natT [vT 1,lmT natT (lmT natT (apT predT (vT 0))),vT 0])):=rfl
 rw[e1,cnt_lm,cnt_lm,cnt_hT at_ _ 6 _ _ (by omega) (by omega)]
 simp only[List.map_cons,List.map_nil,List.sum_cons,List.sum_nil,cnt_lm,cnt_vT,cnt_apT]
 rw[cnt_pred at_ _ (by omega) ha]
 grind
theorem Mk.cnt{n:Nat}{g:List Ty}{t:Ty}{x:Tm}(h:Mk n g t x)(hg:smalls g)(ht:t.small){at_:Int}(hat:0≤at_):∀b:Int,0≤b→cnt at_ (x.vars b)≤c3 n∧(t.size=1→cnt at_ (x.vars b)≤c1 n):=by
 have e1:natT.size=1:=rfl
 have e2:listT.size=1:=rfl
 refine Mk.ind (P:=fun n g t x=>∀b:Int,0≤b→Go.Ab.cnt at_ (x.vars b)≤c3 n∧(t.size=1→Go.Ab.cnt at_ (x.vars b)≤c1 n)) ?_ ?_ ?_ ?_ ?_ ?_ ?_ ?_ ?_ ?_ ?_ ?_ ?_ ?_ ?_ ?_ h hg ht
 ·intro n g t i hi h _ _ b hb;have:=c1_pos (n+1);have:=c_le (n+1);rw[cnt_vT];grind
 ·intro n g t s a b hn hs h1 _ ht iha ihb z hz;have:=c_step n hn;have:=iha (z+1) (by omega);have hb:=ihb z hz;have:=hb.2 h1;have:=c_le n;rw[cnt_apT,cnt_lm];omega
 ·intro n g t s a b hn hs h1 _ ht iha ihb z hz;have:=c_step n hn;have ha:=iha z hz;have hb:=ihb z hz;have:=hb.2 h1;have:=c_le n;rw[cnt_nT _ _ _ _ (by omega) (by omega)];simp only[List.map_cons,List.map_nil,List.sum_cons,List.sum_nil];rw[cnt_nT _ _ _ _ (by omega) (by omega)];grind
 ·intro n g t s a b hn hs h1 _ ht iha ihb z hz;have:=c_step n hn;have ha:=iha z hz;have hb:=ihb z hz;have:=ha.2 h1;have:=c_le n;rw[cnt_nT _ _ _ _ (by omega) (by omega)];simp only[List.map_cons,List.map_nil,List.sum_cons,List.sum_nil];rw[cnt_nT _ _ _ _ (by omega) (by omega)];grind
 ·intro n g t a b m hn hm _ ht iha ihb z hz;have:=c_step n hn;have ha:=iha (z+1+1) (by omega);have hb:=ihb z hz;have:=c_le n;rw[cnt_hT _ _ _ _ _ (by omega) (by omega)];simp only[List.map_cons,List.map_nil,List.sum_cons,List.sum_nil,cnt_lm,cnt_num];omega
 ·intro n g t a b c hn _ ht iha ihb ihc z hz;have:=c_step n hn;have ha:=iha (z+1+1+1) (by omega);have hb:=ihb z hz;have hc:=ihc z hz;have:=hc.2 e2;have:=c_le n;rw[cnt_hT _ _ _ _ _ (by omega) (by omega)];simp only[List.map_cons,List.map_nil,List.sum_cons,List.sum_nil,cnt_lm];omega
 ·intro n g t s a i hn hi h _ h1 _ _ iha z hz;have:=c_step n hn;have ha:=iha z hz;have:=ha.2 h1;have:=c_le n;have:=c1_pos n;rw[cnt_apT,cnt_vT];grind
 ·intro n g a hn _ iha z hz;have:=c_step n hn;have ha:=iha z hz;have:=ha.2 e1;have:=c_le n;have:Go.Ab.cnt at_ ((sT a).vars z)=Go.Ab.cnt at_ (a.vars z):=(cnt_nT at_ z 5 [a] (by omega) (by omega)).trans (by simp)
  omega
 ·intro n g a b hn _ iha ihb z hz;have:=c_step n hn;have ha:=iha z hz;have hb:=ihb z hz;have:=ha.2 e1;have:=hb.2 e1;have:=c_le n;rw[cnt_apT,cnt_apT,cnt_plus at_ z hz hat];omega
 ·intro n g a b hn _ iha ihb z hz;have:=c_step n hn;have ha:=iha z hz;have hb:=ihb z hz;have:=ha.2 e1;have:=hb.2 e1;have:=c_le n;rw[cnt_apT,cnt_apT,cnt_sub at_ z hz hat];omega
 ·intro n g m hm _ z hz;rw[cnt_num];omega
 ·intro n g a b hn _ iha ihb z hz;have:=c_step n hn;have ha:=iha z hz;have hb:=ihb z hz;have:=ha.2 e1;have:=hb.2 e2;have:=c_le n;rw[cnt_nT _ _ _ _ (by omega) (by omega)];grind
 ·intro n g _ z hz;rw[cnt_nT _ _ _ _ (by omega) (by omega)];simp
 ·intro n g s t a b hs ht h1 h2 hn _ iha ihb z hz;have:=c_any n hn;have ha:=(iha z hz).2 h1;have hb:=(ihb z hz).2 h2;rw[two_size,cnt_nT _ _ _ _ (by omega) (by omega)];grind
 ·intro n g s t a hs ht h1 h2 hn _ iha z hz;have:=c_any n hn;have ha:=(iha (z+1) (by omega)).2 h2;rw[fun_size,cnt_lm];omega
 ·intro n g _ z hz;rw[cnt_nT _ _ _ _ (by omega) (by omega)];simp
theorem vars_bound(t:Tm):∀(g:List Ty) (b:Int) (B:Int),(t.inf g).2=0→t.shape=true→(g.length:Int)+t.size≤B→∀p∈t.vars b,p.1<B:=by
 induction t using Tm.ind with
 |h t ih=>
  intro g b B h hs hB p hp
  rw[Tm.inf_eq] at h
  have hsz:=t.size_eq
  rw[t.vars_eq,List.mem_append] at hp
  by_cases h1:t.kind=1
  ·have hargs:t.args=[]:=by
    have:=arK_len hs
    rw[h1] at this
    exact List.eq_nil_of_length_eq_zero (Option.some.inj this).symm
   grind
  ·rw [if_neg h1] at h hp
   simp only[List.not_mem_nil,false_or] at hp
   obtain⟨x,hx,hp⟩:=List.mem_flatMap.1 hp
   have hxs:=lsum_mem Tm.size hx
   by_cases h2:t.kind=2
   ·rw [if_pos h2] at h
    by_cases h3:(Tm.infs (g++[t.ty]) t.args).2=0
    ·exact ih x hx (g++[t.ty]) _ B (Tm.infs_all _ _ h3 x hx) (shape_args hs x hx) (by grind) p hp
    grind
   ·rw [if_neg h2] at h
    by_cases h3:(Tm.infs g t.args).2=0
    ·exact ih x hx g _ B (Tm.infs_all _ _ h3 x hx) (shape_args hs x hx) (by omega) p hp
    grind
theorem re_var{g:Int→Int→Tm}{b:Int}{t:Tm}(h:t.kind=1):t.re g b=g t.index b:=by rw[Tm.re_eq,if_pos h]
theorem re_node{g:Int→Int→Tm}{b:Int}{t:Tm}(h:t.kind≠1):t.re g b= .mk t.kind t.index t.ty (t.args.map (Tm.re g (up t.kind b))):=by rw[Tm.re_eq,if_neg h]
theorem var_args{t:Tm}(hs:t.shape=true)(h:t.kind=1):t.args=[]:=by
 have:=arK_len hs
 rw[h] at this
 exact List.eq_nil_of_length_eq_zero (Option.some.inj this).symm
theorem vars_var{t:Tm}(hs:t.shape=true)(h:t.kind=1)(b:Int):t.vars b=[(t.index,b)]:=by rw[t.vars_eq,if_pos h,var_args hs h];rfl
theorem vars_node{t:Tm}(h:t.kind≠1)(b:Int):t.vars b=t.args.flatMap (Tm.vars (up t.kind b)):=by rw[t.vars_eq,if_neg h];rfl
theorem mem_vars{t:Tm}(h:t.kind≠1){b:Int}{x:Tm}(hx:x∈t.args){p:Int×Int}(hp:p∈x.vars (up t.kind b)):p∈t.vars b:=by
 rw[vars_node h];grind
theorem re_shape(g:Int→Int→Tm)(t:Tm):∀b,t.shape=true→(∀p∈t.vars b,(g p.1 p.2).shape=true)→(t.re g b).shape=true:=by
 induction t using Tm.ind with
 |h t ih=>
  intro b hs hg
  by_cases h1:t.kind=1
  ·rw [re_var h1];exact hg (t.index,b) (by rw[vars_var hs h1];simp)
  ·rw [re_node h1]
   have hs0:=hs
   rw[Tm.shape_eq,Bool.and_eq_true] at hs ⊢
   refine⟨?_,?_⟩
   ·have:=hs.1
    simp only[Tm.head,Tm.kind_mk,Tm.args_mk,Tm.index_mk,Tm.ty_mk,List.length_map] at this ⊢
    grind
   ·simp only[Tm.args_mk]
    refine List.all_eq_true.2 fun y hy=> ?_
    obtain⟨x,hx,rfl⟩:=List.mem_map.1 hy
    exact ih x hx _ (List.all_eq_true.1 hs.2 x hx) fun p hp=>hg p (mem_vars h1 hx hp)
theorem lift_shape{fr by_:Int}{t:Tm}(b:Int)(hs:t.shape=true)(hb:0≤by_):(t.re (liftG fr by_) b).shape=true:=
 re_shape _ t b hs fun p hp=>by
  have:=t.vars_nonneg hs b p hp
  simp only[liftG];exact shape_vT _ (by omega)
theorem lift_size(fr by_:Int)(t:Tm):∀b,t.shape=true→(t.re (liftG fr by_) b).size=t.size:=by
 induction t using Tm.ind with
 |h t ih=>
  intro b hs
  by_cases h1:t.kind=1
  ·rw [re_var h1,t.size_eq,var_args hs h1];rfl
  ·rw [re_node h1,t.size_eq,Tm.size_eq]
   simp only[Tm.args_mk,List.map_map]
   congr 2
   exact List.map_congr_left fun x hx=>ih x hx _ (shape_args hs x hx)
theorem put_shape{at_:Int}{s t:Tm}(b:Int)(hs:s.shape=true)(ht:t.shape=true)(hb:0≤b)(ha:0≤at_)(hv:∀p∈t.vars b,0≤p.2):(t.re (putG at_ s) b).shape=true:=
 re_shape _ t b ht fun p hp=>by
  have:=t.vars_nonneg ht b p hp
  have:=hv p hp
  simp only[putG];split
  ·exact lift_shape 0 hs (by omega)
  ·exact shape_vT _ (by omega)
theorem vars_snd(t:Tm):∀b:Int,∀p∈t.vars b,b≤p.2:=by
 induction t using Tm.ind with
 |h t ih=>
  intro b p hp
  rw[t.vars_eq,List.mem_append] at hp
  rcases hp with hp|hp
  ·grind
  ·obtain ⟨x,hx,hp⟩:=List.mem_flatMap.1 hp
   have:=ih x hx _ p hp
   have:b≤up t.kind b:=by simp only[up];omega
   omega
theorem put_size(at_:Int)(s t:Tm)(hs:s.shape=true):∀b,t.shape=true→(t.re (putG at_ s) b).size=t.size+cnt at_ (t.vars b)*(s.size-1):=by
 have hp:=s.size_pos
 induction t using Tm.ind with
 |h t ih=>
  intro b ht
  by_cases h1:t.kind=1
  ·rw [re_var h1,vars_var ht h1,cnt_one,t.size_eq,var_args ht h1]
   simp only[putG]
   split
   ·rw [lift_size _ _ _ _ hs];grind
   ·simp [Tm.size,Tm.sizes]
  ·rw [re_node h1,t.size_eq,Tm.size_eq,vars_node h1]
   simp only[Tm.args_mk,List.map_map]
   have:∀l:List Tm,(∀x∈l,x∈t.args)→(l.map (Tm.size∘Tm.re (putG at_ s) (up t.kind b))).sum=(l.map Tm.size).sum+cnt at_ (l.flatMap (Tm.vars (up t.kind b)))*(s.size-1):=by
    intro l
    induction l with
    |nil=>intro _;simp[cnt]
    |cons x l ihl=>
     intro hl
     have h2:=ih x (hl x (by simp)) (up t.kind b) (shape_args ht x (hl x (by simp)))
     have h3:=ihl fun y hy=>hl y (by grind)
     simp only[List.map_cons,List.sum_cons,List.flatMap_cons,cnt_append,Function.comp_apply,h2,h3,Nat.add_mul]
     omega
   grind
theorem at0_left{g h:List Ty}{i:Nat}(hi:i<g.length):at0 (g++h) i=at0 g i:=by
 simp only[at0,List.getD_eq_getElem?_getD,List.getElem?_append_left hi]
theorem at0_right{g h:List Ty}{i:Nat}(hi:g.length≤i):at0 (g++h) i=at0 h (i-g.length):=by
 simp only[at0,List.getD_eq_getElem?_getD,List.getElem?_append_right hi]
theorem look_right{g h:List Ty}{i:Nat}(hi:i<h.length):look (g++h) i=look h i:=by
 simp only[look,List.length_append]
 rw[at0_right (by omega)]
 grind
theorem look_left{g h:List Ty}{i:Nat}(hi:h.length≤i)(hl:i<(g++h).length):look (g++h) i=look g (i-h.length):=by
 simp only[look,List.length_append] at hl ⊢
 rw[at0_left (by omega)]
 grind
theorem inf_var'(g:List Ty)(i:Int)(h0:0≤i):(vT i).inf g=if i≥(g.length:Int) then(noTy,6) else(look g i.toNat,0):=by
 rfl
theorem var_vT{t:Tm}(hs:t.shape=true)(h:t.kind=1):t=vT t.index:=by
 refine(Tm.eq_iff _ _).2 ⟨h,rfl,?_,var_args hs h⟩
 rw[Tm.shape_eq,Bool.and_eq_true] at hs
 have h1:=hs.1
 simp only[Tm.head,Bool.and_eq_true,h] at h1
 have h2:=h1.2
 have:typedK 1=false:=rfl
 rw[this,cond_false] at h2
 simp only[Ty.isNo,Bool.and_eq_true,beq_iff_eq] at h2
 exact(Ty.eq_iff _ _).2 ⟨h2.1,List.eq_nil_of_length_eq_zero h2.2⟩
theorem infs_congr{f:Tm→Tm}{g g':List Ty}:∀(l:List Tm),(∀x∈l,(f x).inf g'=x.inf g)→Tm.infs g' (l.map f)=Tm.infs g l:=by
 intro l
 induction l with
 |nil=>intro _;rfl
 |cons x l ih=>
  intro h
  simp only[List.map_cons,Tm.infs,h x (by simp),ih fun y hy=>h y (by grind)]
theorem re_inf(G:Int→Int→Tm)(t:Tm):∀(g g' h:List Ty) (b:Int),t.shape=true→
 (∀(i:Int) (h':List Ty) (b':Int),0≤i→(b'-b=h'.length-h.length)→h.length≤h'.length→(∃e,h'=h++e)→(G i b').inf (g'++h')=(vT i).inf (g++h'))→
 (t.re G b).inf (g'++h)=t.inf (g++h):=by
 induction t using Tm.ind with
 |h t ih=>
  intro g g' h b hs hG
  by_cases h1:t.kind=1
  ·rw [re_var h1]
   have:=hG t.index h b (shape_index hs).1 (by omega) (by omega) ⟨[],by simp⟩
   rw[this,←var_vT hs h1]
  ·rw [re_node h1,Tm.inf_eq,Tm.inf_eq (t:=t)]
   simp only[Tm.kind_mk,Tm.ty_mk,Tm.args_mk,h1,if_false]
   by_cases h2:t.kind=2
   ·have e:up t.kind b=b+1:=if_pos h2
    have:Tm.infs (g'++h++[t.ty]) (t.args.map (Tm.re G (up t.kind b)))=Tm.infs (g++h++[t.ty]) t.args:=by
     refine infs_congr t.args fun x hx=> ?_
     rw[List.append_assoc,List.append_assoc]
     refine ih x hx g g' (h++[t.ty]) _ (shape_args hs x hx) fun i h' b' hi hb hl he=>hG i h' b' hi ?_ ?_ ?_
     all_goals grind
    grind
   ·have e:up t.kind b=b:=if_neg h2
    have:Tm.infs (g'++h) (t.args.map (Tm.re G (up t.kind b)))=Tm.infs (g++h) t.args:=infs_congr t.args fun x hx=>ih x hx g g' h _ (shape_args hs x hx) (by grind)
    grind
theorem lift_inf(t:Tm)(g m h:List Ty)(fr b:Int)(hs:t.shape=true)(hh:(h.length:Int)=fr+b):(t.re (liftG fr m.length) b).inf (g++m++h)=t.inf (g++h):=by
 refine re_inf _ t g (g++m) h b hs fun i h' b' hi hb hl _=> ?_
 have hlen:(h'.length:Int)=fr+b':=by omega
 show(vT (if i-b'≥fr then i+m.length else i)).inf _=_
 by_cases hc:i-b'≥fr
 ·rw [if_pos hc,inf_var' _ _ (by omega),inf_var' _ _ hi]
  simp only[List.length_append]
  by_cases hr:i≥((g.length+h'.length:Nat):Int)
  ·grind
  ·rw [if_neg (by omega),if_neg hr]
   have e1:(i+(m.length:Int)).toNat=i.toNat+m.length:=by omega
   rw[look_left (by omega) (by grind),look_left (by omega) (by grind),look_left (by omega) (by grind)]
   grind
 ·rw [if_neg hc,inf_var' _ _ hi,inf_var' _ _ hi]
  simp only[List.length_append]
  rw[if_neg (by omega),if_neg (by omega),look_right (by omega),look_right (by omega)]
theorem put_inf(t s:Tm)(g h:List Ty)(σ:Ty)(at_ b:Int)(ht:t.shape=true)(hs:s.shape=true)(hh:(h.length:Int)=at_+b)(hσ:s.inf g=(σ,0)):(t.re (putG at_ s) b).inf (g++h)=t.inf (g++[σ]++h):=by
 refine re_inf _ t (g++[σ]) g h b ht fun i h' b' hi hb hl _=> ?_
 have hlen:(h'.length:Int)=at_+b':=by omega
 simp only[putG]
 by_cases hc:i-b'=at_
 ·rw [if_pos hc]
  have e:=lift_inf s g h' [] 0 0 hs rfl
  simp only[List.append_nil] at e
  rw[←hlen,e,hσ,inf_var' _ _ hi]
  simp only[List.length_append,List.length_cons,List.length_nil]
  rw[if_neg (by omega),look_left (by omega) (by grind)]
  rw[show i.toNat-h'.length=0 by omega,look_last]
 ·rw [if_neg hc]
  by_cases hg:i-b'>at_
  ·rw [if_pos hg]
   show(vT (i-1)).inf _=_
   rw[inf_var' _ _ (by omega),inf_var' _ _ hi]
   simp only[List.length_append,List.length_cons,List.length_nil]
   by_cases hr:i≥((g.length+(0+1)+h'.length:Nat):Int)
   ·grind
   ·rw [if_neg (by omega),if_neg hr,look_left (by omega) (by grind),look_left (by omega) (by grind)]
    obtain⟨k,hk⟩:∃k,i.toNat-h'.length=k+1:=⟨i.toNat-h'.length-1,by omega⟩
    rw[hk,look_succ g σ k (by omega)]
    grind
  ·rw [if_neg hg]
   show(vT i).inf _=_
   rw[inf_var' _ _ hi,inf_var' _ _ hi]
   simp only[List.length_append,List.length_cons,List.length_nil]
   rw[if_neg (by omega),if_neg (by omega),look_right (by omega),look_right (by omega)]
theorem near_of{t:Tm}{g:List Ty}(h:(t.inf g).2=0)(hs:t.shape=true)(hb:g.length+t.size≤536870912):t.near=true:=
 List.all_eq_true.2 fun p hp=>by
  have:=vars_bound t g 0 536870912 h hs (by omega) p hp
  grind
theorem Tm.err_iff(t:Tm):t.err=0↔t.shape=true∧t.size≤4096:=by
 simp only[Tm.err]
 grind
theorem lift_full(fr by_:Int)(t:Tm):∀b,t.shape=true→(t.re (liftG fr by_) b).full=t.full:=by
 induction t using Tm.ind with
 |h t ih=>
  intro b hs
  by_cases h1:t.kind=1
  ·rw [re_var h1]
   conv=>rhs;rw[var_vT hs h1]
   rfl
  ·rw [re_node h1,t.full_eq,Tm.full_eq]
   simp only[Tm.args_mk,Tm.ty_mk,List.map_map]
   congr 2
   exact List.map_congr_left fun x hx=>ih x hx _ (shape_args hs x hx)
theorem put_full(at_:Int)(s t:Tm)(hs:s.shape=true):∀b,t.shape=true→(t.re (putG at_ s) b).full≤t.full+cnt at_ (t.vars b)*s.full:=by
 induction t using Tm.ind with
 |h t ih=>
  intro b ht
  by_cases h1:t.kind=1
  ·rw [re_var h1,vars_var ht h1,cnt_one]
   have e:t.full=2:=by rw[var_vT ht h1];rfl
   simp only[putG]
   split
   ·rw [lift_full _ _ _ _ hs];omega
   ·rw [e];simp[Tm.full,Tm.fulls,Ty.size,Ty.sizes]
  ·rw [re_node h1,t.full_eq,Tm.full_eq,vars_node h1]
   simp only[Tm.args_mk,Tm.ty_mk,List.map_map]
   have:∀l:List Tm,(∀x∈l,x∈t.args)→(l.map (Tm.full∘Tm.re (putG at_ s) (up t.kind b))).sum≤(l.map Tm.full).sum+cnt at_ (l.flatMap (Tm.vars (up t.kind b)))*s.full:=by
    intro l
    induction l with
    |nil=>simp
    |cons x l ihl=>
     intro hl
     have h2:=ih x (hl x (by simp)) (up t.kind b) (shape_args ht x (hl x (by simp)))
     have h3:=ihl fun y hy=>hl y (by grind)
     simp only[List.map_cons,List.sum_cons,List.flatMap_cons,cnt_append,Function.comp_apply,Nat.add_mul]
     omega
   grind
theorem Dk.type1(d:Dk):(d.type 1).1.small:=by
 have e:=Dk.type_eq 1 d
 rw[show(1:Int).toNat=1 from rfl,show((1:Int)-1).toNat=0 from rfl] at e
 have h1:=Dk.type0 (d.next 7).2
 have h2:=Dk.type0 ((d.next 7).2.type 0).2
 rw[e]
 generalize ((d.next 7).2.type 0).1=a at*
 generalize (((d.next 7).2.type 0).2.type 0).1=b at*
 split
 ·split
  ·exact ⟨two_shape h1.1 h2.1,show(twoT a b).size≤3 by rw[two_size];omega⟩
  ·exact ⟨fun_shape h1.1 h2.1,show(funT a b).size≤3 by rw[fun_size];omega⟩
 ·split
  ·exact ⟨rfl,show(Ty.mk 2 []).size≤3 by decide⟩
  ·split
   ·exact ⟨rfl,show(Ty.mk 5 []).size≤3 by decide⟩
   ·exact ⟨rfl,show(Ty.mk 1 []).size≤3 by decide⟩
theorem Dk.types_smalls:∀(n:Nat) (d:Dk),smalls (d.types n).1
 |0,d=>smalls_nil
 |n+1,d=>smalls_cons (Dk.type1 d) (Dk.types_smalls n _)
theorem Dk.ctx_smalls(d:Dk):smalls d.ctx.1:=Dk.types_smalls _ _
theorem Dk.ctx_len(d:Dk):d.ctx.1.length≤3:=by
 have:=Dk.next_bd d 4 (by omega)
 simp only[Dk.ctx,Dk.types_len];omega
theorem Dk.ctx_ok{d:Dk}(h:d.ok):d.ctx.2.ok:=Dk.types_ok _ _ (Dk.next_ok h 4)
def typed(g:List Ty)(t:Tm):Ty×Int:=if t.err≠0 then(noTy,t.err) else t.inf g
def typeOf(g:List Ty)(t:Tm):Ty×Int:=if ctxErr g≠0 then(noTy,ctxErr g) else typed g t
theorem ctxErr_ok{g:List Ty}(h:smalls g)(hl:g.length≤16):ctxErr g=0:=by
 unfold ctxErr
 rw[if_neg (by omega)]
 exact firstErr_none g fun j hj _=>small_err (h _ (List.getElem_mem hj))
theorem firstErr_all:∀{g:List Ty},firstErr g=0→∀x∈g,x.err=0
 |[],_,x,hx=>by cases hx
 |t::l,h,x,hx=>by
  simp only[firstErr] at h
  by_cases h1:t.err=0
  ·simp only[h1,ne_eq,not_true_eq_false,if_false] at h
   rcases List.mem_cons.1 hx with rfl|hx
   ·exact h1
   ·exact firstErr_all h x hx
  omega
theorem ctxErr_all{g:List Ty}(h:ctxErr g=0):g.length≤16∧∀x∈g,x.err=0:=by
 unfold ctxErr at h
 by_cases h1:g.length>16
 ·omega
 ·rw [if_neg h1] at h;exact⟨by omega,firstErr_all h⟩
theorem Mk.err{n:Nat}{g:List Ty}{t:Ty}{x:Tm}(h:Mk n g t x)(hg:smalls g)(ht:t.small)(hn:n≤5):x.err=0:=by
 refine(Tm.err_iff x).2 ⟨h.shape hg ht,?_⟩
 have:=(h.size hg ht).1
 have:s3 n≤232:=by
  match n,hn with
  |0,_=>decide
  |1,_=>decide
  |2,_=>decide
  |3,_=>decide
  |4,_=>decide
  |5,_=>decide
 omega
theorem Mk.small_size{n:Nat}{g:List Ty}{t:Ty}{x:Tm}(h:Mk n g t x)(hg:smalls g)(ht:t.small)(hn:n≤5):x.size≤232:=by
 have:=(h.size hg ht).1
 have:s3 n≤232:=by
  match n,hn with
  |0,_=>decide
  |1,_=>decide
  |2,_=>decide
  |3,_=>decide
  |4,_=>decide
  |5,_=>decide
 omega
theorem Mk.near{n:Nat}{g:List Ty}{t:Ty}{x:Tm}(h:Mk n g t x)(hg:smalls g)(ht:t.small)(hn:n≤5)(hl:g.length≤100000):x.near=true:=
 near_of (by rw[h.inf hg ht]) (h.shape hg ht) (by have:=h.small_size hg ht hn;omega)
def ofT(t:Ty):Sz:=⟨t,t.num⟩
def zSz:Sz:=⟨noTy,0⟩
theorem num_ok{t:Ty}(h:t.err=0):t.num=t.size:=by simp[Ty.num,h]
def plainK(k:Int):List Int:=if k=4 then [1] else if k=5 then [1,1] else if k=7 then [2] else if k=8 then [2,1,2] else if k=13 then [5] else []
def joinS(k:Int)(a b:Sz):Sz×Int:=if 1+a.nodes+b.nodes>64 then(zSz,4) else(⟨.mk k [a.ty,b.ty],1+a.nodes+b.nodes⟩,0)
def funs(r:Ty)(l:List Ty):Ty:=l.foldr funT r
def stepT(t:Tm):Ty:=if t.kind=9 then funs t.ty [natT,listT,t.ty] else funs t.ty [natT,t.ty]
theorem join_ok{k:Int}{a b:Ty}(hk:k=3∨k=4)(ha:a.err=0)(hb:b.err=0):joinS k (ofT a) (ofT b)=(ofT (okT (.mk k [a,b])).1,(okT (.mk k [a,b])).2):=by
 have sa:=(Ty.err_iff a).1 ha
 have sb:=(Ty.err_iff b).1 hb
 have hsh:(Ty.mk k [a,b]).shape=true:=by
  rcases hk with rfl|rfl
  ·exact two_shape sa.1 sb.1
  ·exact fun_shape sa.1 sb.1
 have hsz:(Ty.mk k [a,b]).size=1+(a.size+b.size):=by simp[Ty.size,Ty.sizes]
 simp only[joinS,ofT,num_ok ha,num_ok hb]
 by_cases h:a.size+b.size>63
 ·have he:(Ty.mk k [a,b]).err=4:=by simp only[Ty.err,hsh];rw[if_neg (by simp),if_pos (by omega)]
  rw[if_pos (by omega)]
  simp[okT,he,zSz]
  rfl
 ·have he:(Ty.mk k [a,b]).err=0:=(Ty.err_iff _).2 ⟨hsh,by omega⟩
  rw[if_neg (by omega),okT_ok he]
  simp only[num_ok he,hsz]
  congr 2;omega
theorem same_ok{a b:Ty}(ha:a.err=0)(hb:b.err=0):((ofT a).nodes==(ofT b).nodes&&decide (a=b))=decide (a=b):=by
 by_cases h:a=b
 ·subst h;simp
 ·simp [h]
def pad3:List Ty→List V
 |[]=>zSz.view++zSz.view++zSz.view
 |[a]=>(ofT a).view++zSz.view++zSz.view
 |[a,b]=>(ofT a).view++(ofT b).view++zSz.view
 |a::b::c::_=>(ofT a).view++(ofT b).view++(ofT c).view
mutual
def dfl:Ty→Tm
 | .mk k l=>if k=2 then nT 7 [] else if k=5 then nT 13 [] else if k=3 then nT 10 (dfls l) else if k=4 then lmT (at0 l 0) ((dfls l).getD 1 noTm) else nT 4 []
def dfls:List Ty→List Tm
 |[]=>[]
 |t::l=>dfl t::dfls l
end
theorem dfl_two(a b:Ty):dfl (twoT a b)=nT 10 [dfl a,dfl b]:=by rfl
theorem dfl_fun(a b:Ty):dfl (funT a b)=lmT a (dfl b):=by rfl
theorem dfl_facts(t:Ty):t.shape=true→t.size≤64→(∀g,(dfl t).inf g=(t,0))∧(dfl t).shape=true∧(dfl t).size≤t.size∧(dfl t).full≤66*t.size:=by
 induction t using Ty.ind with
 |h t ih=>
  intro hs h64
  rcases shape_cases hs with rfl|rfl|rfl|⟨a,b,ha,hb,rfl|rfl⟩
  ·exact ⟨fun g=>inf_zero g,by decide,by decide,by decide⟩
  ·exact ⟨fun g=>by rfl,by decide,by decide,by decide⟩
  ·exact ⟨fun g=>by rfl,by decide,by decide,by decide⟩
  ·rw [two_size] at h64 ⊢
   rw[dfl_two]
   obtain⟨a1,a2,a3,a4⟩:=ih a (by simp) ha (by omega)
   obtain⟨b1,b2,b3,b4⟩:=ih b (by simp) hb (by omega)
   refine⟨fun g=>inf_pair (a1 g) (b1 g) ((Ty.err_iff _).2 ⟨two_shape ha hb,by rw[two_size];omega⟩),shape_two rfl rfl a2 b2,?_,?_⟩
   ·simp only[nT,Tm.size,Tm.sizes];omega
   ·simp only[nT,Tm.full,Tm.fulls,Ty.size,Ty.sizes];omega
  ·rw [fun_size] at h64 ⊢
   rw[dfl_fun]
   obtain⟨b1,b2,b3,b4⟩:=ih b (by simp) hb (by omega)
   have hp:=a.size_pos
   refine⟨fun g=>inf_lam (b1 _) ((Ty.err_iff _).2 ⟨fun_shape ha hb,by rw[fun_size];omega⟩),shape_lm (ok_of ha (by omega)) b2,?_,?_⟩
   ·simp only[lmT,Tm.size,Tm.sizes];omega
   ·simp only[lmT,Tm.full,Tm.fulls];omega
@[simp] theorem Fm.kind_mk(k:Int)(h:Ty)(ts:List Tm)(as:List Fm):(Fm.mk k h ts as).kind=k:=rfl
@[simp] theorem Fm.ty_mk(k:Int)(h:Ty)(ts:List Tm)(as:List Fm):(Fm.mk k h ts as).ty=h:=rfl
@[simp] theorem Fm.terms_mk(k:Int)(h:Ty)(ts:List Tm)(as:List Fm):(Fm.mk k h ts as).terms=ts:=rfl
@[simp] theorem Fm.args_mk(k:Int)(h:Ty)(ts:List Tm)(as:List Fm):(Fm.mk k h ts as).args=as:=rfl
def quantK(k:Int):Bool:=decide (4≤k)&&decide (k≤7)
def Fm.head(f:Fm):Bool:=
 if f.kind=1 then f.ty.isNo&&f.terms.length==2&&f.args.length==0
 else if f.kind=2∨f.kind=3 then f.ty.isNo&&f.terms.length==0&&f.args.length==2
 else if f.kind=4∨f.kind=5∨f.kind=6∨f.kind=7 then f.ty.ok&&f.terms.length==0&&f.args.length==1 else false
mutual
def Fm.shape:Fm→Bool
 | .mk k h ts as=>Fm.head (.mk k h ts as)&&ts.all Tm.shape&&Fm.shapes as
def Fm.shapes:List Fm→Bool
 |[]=>true
 |f::l=>f.shape&&Fm.shapes l
end
mutual
def Fm.size:Fm→Nat
 | .mk _ _ ts as=>1+(ts.map Tm.size).sum+Fm.sizes as
def Fm.sizes:List Fm→Nat
 |[]=>0
 |f::l=>f.size+Fm.sizes l
end
mutual
def Fm.full:Fm→Nat
 | .mk _ h ts as=>1+h.size+(ts.map Tm.full).sum+Fm.fulls as
def Fm.fulls:List Fm→Nat
 |[]=>0
 |f::l=>f.full+Fm.fulls l
end
theorem Fm.shapes_eq:∀l:List Fm,Fm.shapes l=l.all Fm.shape
 |[]=>rfl
 |f::l=>by rw[Fm.shapes,Fm.shapes_eq l];rfl
theorem Fm.sizes_eq:∀l:List Fm,Fm.sizes l=(l.map Fm.size).sum
 |[]=>rfl
 |f::l=>by rw[Fm.sizes,Fm.sizes_eq l];rfl
theorem Fm.fulls_eq:∀l:List Fm,Fm.fulls l=(l.map Fm.full).sum
 |[]=>rfl
 |f::l=>by rw[Fm.fulls,Fm.fulls_eq l];rfl
theorem Fm.shape_eq(f:Fm):f.shape=(f.head&&f.terms.all Tm.shape&&f.args.all Fm.shape):=by cases f;simp only[Fm.shape,Fm.shapes_eq];rfl
theorem Fm.size_eq(f:Fm):f.size=1+(f.terms.map Tm.size).sum+(f.args.map Fm.size).sum:=by cases f;simp only[Fm.size,Fm.sizes_eq];rfl
theorem Fm.full_eq(f:Fm):f.full=1+f.ty.size+(f.terms.map Tm.full).sum+(f.args.map Fm.full).sum:=by cases f;simp only[Fm.full,Fm.fulls_eq];rfl
theorem Fm.full_pos(f:Fm):1≤f.full:=by rw[Fm.full_eq];omega
theorem Fm.size_pos(f:Fm):1≤f.size:=by rw[Fm.size_eq];omega
theorem Fm.ind{P:Fm→Prop}(h:∀f,(∀x∈f.args,P x)→P f)(f:Fm):P f:=by
 have:∀n,∀f:Fm,f.full≤n→P f:=by
  intro n
  induction n with
  |zero=>intro f h;have:=f.full_pos;omega
  |succ n ih=>
   intro f hf
   refine h f fun x hx=>ih x ?_
   have:=lsum_mem Fm.full hx
   have:=f.full_eq
   omega
 exact this _ f (Nat.le_refl _)
theorem Fm.size_le_full(f:Fm):f.size≤f.full:=by
 induction f using Fm.ind with
 |h f ih=>
  rw[f.size_eq,f.full_eq]
  have h1:=lsum_le (f:=Fm.size) (g:=Fm.full) f.args ih
  have h2:=lsum_le (f:=Tm.size) (g:=Tm.full) f.terms fun x _=>x.size_le_full
  omega
def Fm.nodes(f:Fm):Nat:=if f.shape then f.size else 0
def Fm.err(f:Fm):Int:=if f.shape=false then 2 else if f.size>4096 then 4 else 0
def Fm.num(f:Fm):Int:=if f.err=0 then f.size else 0
def noFm:Fm:= .mk 0 (.mk 0 []) [] []
def eqF(a b:Tm):Fm:= .mk 1 (.mk 0 []) [a,b] []
theorem eqF_shape{a b:Tm}(ha:a.shape=true)(hb:b.shape=true):(eqF a b).shape=true:=by
 rw[Fm.shape_eq];simp[eqF,Fm.head,ha,hb,Ty.isNo]
theorem eqF_size(a b:Tm):(eqF a b).size=1+(a.size+b.size):=by rfl
theorem Fm.err_iff(f:Fm):f.err=0↔f.shape=true∧f.size≤4096:=by
 unfold Fm.err
 grind
def Tm.arg(t:Tm)(i:Nat):Tm:=t.args.getD i noTm
mutual
def timesT(at_:Int):Tm→Nat
 | .mk k i h xs=>if k=1∧i=at_ then 1 else timesTs (up k at_) xs
def timesTs(at_:Int):List Tm→Nat
 |[]=>0
 |x::l=>timesT at_ x+timesTs at_ l
end
theorem timesTs_eq(at_:Int):∀l:List Tm,timesTs at_ l=(l.map (timesT at_)).sum
 |[]=>rfl
 |x::l=>by rw[timesTs,timesTs_eq at_ l];rfl
theorem timesT_eq(at_:Int)(t:Tm):timesT at_ t=if t.kind=1∧t.index=at_ then 1 else(t.args.map (timesT (up t.kind at_))).sum:=by
 cases t;simp only[timesT,timesTs_eq,Tm.kind_mk,Tm.index_mk,Tm.args_mk];rfl
theorem timesT_le(t:Tm):∀at_,timesT at_ t≤t.size:=by
 induction t using Tm.ind with
 |h t ih=>
  intro at_
  rw[timesT_eq,t.size_eq]
  split
  ·omega
  ·have:=lsum_le (f:=timesT (up t.kind at_)) (g:=Tm.size) t.args fun x hx=>ih x hx _
   omega
theorem times_cnt(t:Tm):∀at_ b:Int,t.shape=true→timesT (at_+b) t=cnt at_ (t.vars b):=by
 induction t using Tm.ind with
 |h t ih=>
  intro at_ b hs
  rw[timesT_eq]
  by_cases h1:t.kind=1
  ·rw [vars_var hs h1,cnt_one,var_args hs h1]
   grind
  ·rw [if_neg (fun hh=>h1 hh.1)]
   have hargs:=shape_args hs
   obtain⟨k,i,th,xs⟩:=t
   rw[cnt_node at_ b k i th xs h1]
   have e:up k (at_+b)=at_+up k b:=by unfold up;omega
   simp only[Tm.kind_mk,Tm.args_mk] at*
   rw[e]
   congr 1
   simp_all
def smallT(t:Tm):Bool:=
 if t.kind=3 then(t.arg 0).kind==2&&((t.arg 1).args.length==0||decide (timesT 0 ((t.arg 0).arg 0)≤1))
 else if t.kind=6 then(t.arg 2).kind==4
 else if t.kind=9 then(t.arg 2).kind==7
 else if t.kind=11∨t.kind=12 then(t.arg 0).kind==10 else false
def becomeT(t:Tm):Tm:=
 if t.kind=3 then((t.arg 0).arg 0).re (putG 0 (t.arg 1)) 0
 else if t.kind=11 then(t.arg 0).arg 0 else if t.kind=12 then(t.arg 0).arg 1 else t.arg 0
mutual
def nextT:Tm→Option Tm
 | .mk k i h xs=>if smallT (.mk k i h xs)=true then some (becomeT (.mk k i h xs)) else(nextTs xs).map (Tm.mk k i h)
def nextTs:List Tm→Option (List Tm)
 |[]=>none
 |x::l=>match nextT x with
  |some u=>some (u::l)
  |none=>(nextTs l).map (x::·)
end
theorem inf_node{t:Tm}{g:List Ty}{T:Ty}(h1:t.kind≠1)(h2:t.kind≠2)(h:t.inf g=(T,0)):(∀x∈t.args,(x.inf g).2=0)∧rule t.kind t.ty (t.args.map fun x=>(x.inf g).1)=(T,0):=by
 rw[Tm.inf_eq,if_neg h1,if_neg h2] at h
 by_cases h3:(Tm.infs g t.args).2=0
 ·rw [if_neg (by omega)] at h
  have h4:=Tm.infs_all g t.args h3
  refine⟨h4,?_⟩
  rw[Tm.infs_ok g t.args h4] at h
  exact h
 grind
theorem inf_lam_inv{i:Int}{th T:Ty}{b:Tm}{g:List Ty}(h:(Tm.mk 2 i th [b]).inf g=(T,0)):(b.inf (g++[th])).2=0∧T=funT th (b.inf (g++[th])).1:=by
 rw[Tm.inf_eq,if_neg (by simp),if_pos (by simp)] at h
 simp only[Tm.args_mk,Tm.ty_mk] at h
 by_cases h3:(b.inf (g++[th])).2=0
 ·refine ⟨h3,?_⟩
  simp only[Tm.infs,h3,ne_eq,not_true_eq_false,if_false] at h
  unfold okT at h
  split at h
  all_goals simp_all
 ·simp only[Tm.infs,h3,ne_eq,not_false_eq_true,if_true] at h
  grind
theorem okT_two{a b T:Ty}(h:okT (twoT a b)=(T,0)):T=twoT a b:=by
 unfold okT at h
 grind
theorem pair_inf{i:Int}{th T:Ty}{x y:Tm}{g:List Ty}(h:(Tm.mk 10 i th [x,y]).inf g=(T,0)):(x.inf g).2=0∧(y.inf g).2=0∧T=twoT (x.inf g).1 (y.inf g).1:=by
 obtain⟨h1,h2⟩:=inf_node (by simp) (by simp) h
 exact⟨h1 x (by simp),h1 y (by simp),okT_two (by simpa [rule,at0] using h2)⟩
theorem mkArgs2{t:Tm}(hs:t.shape=true){k:Int}(hk:t.kind=k)(ha:arK k=some 2):∃i th x y,t= .mk k i th [x,y]∧x.shape=true∧y.shape=true:=by
 have h:=arK_len hs
 have h2:=shape_args hs
 obtain⟨k',i,th,xs⟩:=t
 simp only[Tm.kind_mk,Tm.args_mk] at*
 subst hk
 rw[ha] at h
 obtain⟨x,y,rfl⟩:=len_2 (Option.some.inj h).symm
 grind
theorem mkArgs1{t:Tm}(hs:t.shape=true){k:Int}(hk:t.kind=k)(ha:arK k=some 1):∃i th x,t= .mk k i th [x]∧x.shape=true:=by
 have h:=arK_len hs
 have h2:=shape_args hs
 obtain⟨k',i,th,xs⟩:=t
 simp only[Tm.kind_mk,Tm.args_mk] at*
 subst hk
 rw[ha] at h
 obtain⟨x,rfl⟩:=len_1 (Option.some.inj h).symm
 grind
theorem mkArgs3{t:Tm}(hs:t.shape=true){k:Int}(hk:t.kind=k)(ha:arK k=some 3):∃i th x y z,t= .mk k i th [x,y,z]∧x.shape=true∧y.shape=true∧z.shape=true:=by
 have h:=arK_len hs
 have h2:=shape_args hs
 obtain⟨k',i,th,xs⟩:=t
 simp only[Tm.kind_mk,Tm.args_mk] at*
 subst hk
 rw[ha] at h
 obtain⟨x,y,z,rfl⟩:=len_3 (Option.some.inj h).symm
 grind
theorem sum_set{α:Type}(f:α→Nat)(u:α):∀(xs:List α) (i:Nat) (hi:i<xs.length),((xs.set i u).map f).sum+f xs[i]=(xs.map f).sum+f u
 |[],i,hi=>by grind
 |x::l,0,_=>by grind
 |x::l,i+1,hi=>by
  have:=sum_set f u l i (by grind)
  grind
theorem infs_set(g:List Ty)(u:Tm):∀(xs:List Tm) (i:Nat) (hi:i<xs.length),u.inf g=xs[i].inf g→Tm.infs g (xs.set i u)=Tm.infs g xs
 |[],i,hi,_=>by rfl
 |x::l,0,_,h=>by
  simp only[List.getElem_cons_zero] at h
  simp only[List.set_cons_zero,Tm.infs,h]
 |x::l,i+1,hi,h=>by
  simp only[List.set_cons_succ,Tm.infs]
  rw[infs_set g u l i (by grind) (by grind)]
theorem inf_two(i:Int)(th:Ty)(xs:List Tm)(g:List Ty):(Tm.mk 2 i th xs).inf g=if(Tm.infs (g++[th]) xs).2≠0 then(noTy,(Tm.infs (g++[th]) xs).2) else okT (funT th (at0 (Tm.infs (g++[th]) xs).1 0)):=by
 rfl
theorem lam_congr{i:Int}{th:Ty}{v b:Tm}{g:List Ty}(hv:v.inf (g++[th])=b.inf (g++[th])):(Tm.mk 2 i th [v]).inf g=(Tm.mk 2 i th [b]).inf g:=by
 have e:Tm.infs (g++[th]) [v]=Tm.infs (g++[th]) [b]:=infs_set (g++[th]) v [b] 0 (by simp) hv
 rw[inf_two,inf_two,e]
theorem set_shape{k i:Int}{th:Ty}{xs:List Tm}{m:Nat}{u:Tm}(h:(Tm.mk k i th xs).shape=true)(hu:u.shape=true):(Tm.mk k i th (xs.set m u)).shape=true:=by
 have hargs:=shape_args h
 rw[Tm.shape_eq] at h ⊢
 simp only[Bool.and_eq_true] at h ⊢
 refine⟨?_,?_⟩
 ·have e:(Tm.mk k i th (xs.set m u)).head=(Tm.mk k i th xs).head:=by simp only[Tm.head,Tm.kind_mk,Tm.args_mk,Tm.index_mk,Tm.ty_mk];grind
  grind
 ·refine List.all_eq_true.2 fun x hx=> ?_
  rcases List.mem_or_eq_of_mem_set hx with hx|rfl
  all_goals simp_all
theorem shape_full(t:Tm):t.shape=true→t.full≤65*t.size:=by
 induction t using Tm.ind with
 |h t ih=>
  intro hs
  have hargs:=shape_args hs
  have hty:t.ty.size≤64:=by
   rw[Tm.shape_eq,Bool.and_eq_true] at hs
   have:=hs.1
   simp only[Tm.head,Bool.and_eq_true] at this
   have h2:=this.2
   cases hk:typedK t.kind with
   |true=>rw[hk] at h2;simp only[cond_true,Ty.ok,Bool.and_eq_true,decide_eq_true_eq] at h2;omega
   |false=>
    rw[hk] at h2
    simp only[cond_false,Ty.isNo,Bool.and_eq_true,beq_iff_eq] at h2
    rw[t.ty.size_eq,List.eq_nil_of_length_eq_zero h2.2]
    simp
  have hsum:=lsum_le (f:=Tm.full) (g:=fun x=>65*x.size) t.args fun x hx=>ih x hx (hargs x hx)
  have hmul:∀l:List Tm,(l.map fun x=>65*x.size).sum=65*(l.map Tm.size).sum:=by
   intro l
   induction l<;>grind
  rw[hmul] at hsum
  rw[t.full_eq,t.size_eq]
  omega
inductive Red:Tm→Tm→Nat→Prop
 |done {t:Tm} (h:nextT t=none):Red t t 0
 |step {t u v:Tm} {n:Nat} (h:nextT t=some u) (hr:Red u v n):Red t v (n+1)
def twoF(k:Int)(a b:Fm):Fm:= .mk k (.mk 0 []) [] [a,b]
def quF(k:Int)(s:Ty)(f:Fm):Fm:= .mk k s [] [f]
def Dk.eqf(d:Dk)(g:List Ty):Fm×Dk:=(eqF (Dk.tm 3 d g natT).1 (Dk.tm 3 (Dk.tm 3 d g natT).2 g natT).1,(Dk.tm 3 (Dk.tm 3 d g natT).2 g natT).2)
def Dk.fm:Nat→Dk→List Ty→Fm×Dk
 |0,d,g=>d.eqf g
 |n+1,d,g=>
  if(d.next 9).1=0 then(twoF 2 (Dk.fm n (d.next 9).2 g).1 (Dk.fm n (Dk.fm n (d.next 9).2 g).2 g).1,(Dk.fm n (Dk.fm n (d.next 9).2 g).2 g).2)
  else if(d.next 9).1=1∨(d.next 9).1=2 then(twoF 3 (Dk.fm n (d.next 9).2 g).1 (Dk.fm n (Dk.fm n (d.next 9).2 g).2 g).1,(Dk.fm n (Dk.fm n (d.next 9).2 g).2 g).2)
  else if(d.next 9).1=3∨(d.next 9).1=4 then(quF 4 ((d.next 9).2.type 1).1 (Dk.fm n ((d.next 9).2.type 1).2 (g++[((d.next 9).2.type 1).1])).1,(Dk.fm n ((d.next 9).2.type 1).2 (g++[((d.next 9).2.type 1).1])).2)
  else if(d.next 9).1=5 then(quF 5 ((d.next 9).2.type 1).1 (Dk.fm n ((d.next 9).2.type 1).2 (g++[((d.next 9).2.type 1).1])).1,(Dk.fm n ((d.next 9).2.type 1).2 (g++[((d.next 9).2.type 1).1])).2)
  else if(d.next 9).1=6 then(quF (6+(((d.next 9).2.type 0).2.next 2).1) ((d.next 9).2.type 0).1 (Dk.fm n (((d.next 9).2.type 0).2.next 2).2 (g++[((d.next 9).2.type 0).1])).1,(Dk.fm n (((d.next 9).2.type 0).2.next 2).2 (g++[((d.next 9).2.type 0).1])).2)
  else(d.next 9).2.eqf g
def quFs(qs:List (Int×Ty))(f:Fm):Fm:=qs.foldr (fun q f=>quF q.1 q.2 f) f
def imFs(ps:List Fm)(c:Fm):Fm:=ps.foldr (twoF 3) c
theorem imFs_full(ps:List Fm)(c:Fm):(imFs ps c).full=c.full+(ps.map fun p=>2+p.full).sum:=by
 induction ps with
 |nil=>simp[imFs]
 |cons p l ih=>
  rw[show imFs (p::l) c=twoF 3 p (imFs l c) from rfl,Fm.full_eq]
  simp only[twoF,Fm.ty_mk,Fm.terms_mk,Fm.args_mk,List.map_cons,List.map_nil,List.sum_cons,List.sum_nil,Ty.size,Ty.sizes,ih]
  omega
theorem quFs_full(qs:List (Int×Ty))(b:Fm):(quFs qs b).full=b.full+(qs.map fun q=>1+q.2.size).sum:=by
 induction qs with
 |nil=>simp[quFs]
 |cons p l ih=>
  rw[show quFs (p::l) b=quF p.1 p.2 (quFs l b) from rfl,Fm.full_eq]
  simp only[quF,Fm.ty_mk,Fm.terms_mk,Fm.args_mk,List.map_cons,List.map_nil,List.sum_cons,List.sum_nil,ih]
  omega
theorem imFs_mem{ps:List Fm}{c:Fm}{m:Nat}(hm:m<ps.length):ps[m].full≤(imFs ps c).full:=by
 rw[imFs_full]
 have:2+ps[m].full≤(ps.map fun p=>2+p.full).sum:=lsum_mem (fun p:Fm=>2+p.full) (List.getElem_mem hm)
 omega
theorem imFs_len(ps:List Fm)(c:Fm):ps.length≤(imFs ps c).full:=by
 rw[imFs_full]
 have:=lsum_len (fun p:Fm=>2+p.full) (fun p=>by omega) ps
 omega
theorem quFs_mem{qs:List (Int×Ty)}{b:Fm}{m:Nat}(hm:m<qs.length):qs[m].2.size≤(quFs qs b).full:=by
 rw[quFs_full]
 have:1+qs[m].2.size≤(qs.map fun q=>1+q.2.size).sum:=lsum_mem (fun q:Int×Ty=>1+q.2.size) (List.getElem_mem hm)
 omega
theorem quFs_len(qs:List (Int×Ty))(b:Fm):qs.length+b.full≤(quFs qs b).full:=by
 rw[quFs_full]
 have:=lsum_len (fun q:Int×Ty=>1+q.2.size) (fun p=>by omega) qs
 omega
theorem imFs_drop{ps:List Fm}{c:Fm}{m:Nat}(hm:m<ps.length):imFs (ps.drop m) c= .mk 3 (.mk 0 []) [] [ps[m],imFs (ps.drop (m+1)) c]:=by rw[List.drop_eq_getElem_cons hm];rfl
theorem quFs_drop{qs:List (Int×Ty)}{b:Fm}{m:Nat}(hm:m<qs.length):quFs (qs.drop m) b= .mk qs[m].1 qs[m].2 [] [quFs (qs.drop (m+1)) b]:=by rw[List.drop_eq_getElem_cons hm];rfl
theorem Ty.no_of{t:Ty}(h:t.isNo=true):t= .mk 0 []:=by
 obtain⟨k,as⟩:=t
 simp only[Ty.isNo,Ty.kind,Ty.args,Bool.and_eq_true,beq_iff_eq,List.length_eq_zero_iff] at h
 grind
def upF(k b:Int):Int:=if quantK k=true then b+1 else b
mutual
def Fm.tms(b:Int):Fm→List (Tm×Int)
 | .mk k _ ts as=>ts.map (fun t=>(t,b))++Fm.tmss (upF k b) as
def Fm.tmss(b:Int):List Fm→List (Tm×Int)
 |[]=>[]
 |f::l=>f.tms b++Fm.tmss b l
end
mutual
def Fm.re(g:Int→Tm→Tm)(b:Int):Fm→Fm
 | .mk k h ts as=> .mk k h (ts.map (g b)) (Fm.res g (upF k b) as)
def Fm.res(g:Int→Tm→Tm)(b:Int):List Fm→List Fm
 |[]=>[]
 |f::l=>f.re g b::Fm.res g b l
end
theorem Fm.tmss_eq(b:Int):∀l:List Fm,Fm.tmss b l=l.flatMap (Fm.tms b)
 |[]=>rfl
 |f::l=>by rw[Fm.tmss,Fm.tmss_eq b l,List.flatMap_cons]
theorem Fm.res_eq(g:Int→Tm→Tm)(b:Int):∀l:List Fm,Fm.res g b l=l.map (Fm.re g b)
 |[]=>rfl
 |f::l=>by rw[Fm.res,Fm.res_eq g b l,List.map_cons]
theorem Fm.tms_eq(b:Int)(f:Fm):f.tms b=f.terms.map (fun t=>(t,b))++f.args.flatMap (Fm.tms (upF f.kind b)):=by cases f;simp only[Fm.tms,Fm.tmss_eq];rfl
theorem Fm.re_eq(g:Int→Tm→Tm)(b:Int)(f:Fm):f.re g b= .mk f.kind f.ty (f.terms.map (g b)) (f.args.map (Fm.re g (upF f.kind b))):=by cases f;simp only[Fm.re,Fm.res_eq];rfl
def cntF(at_:Int):List (Tm×Int)→Nat
 |[]=>0
 |p::l=>cnt (at_+p.2) (p.1.vars 0)+cntF at_ l
theorem cntF_append(at_:Int):∀l l':List (Tm×Int),cntF at_ (l++l')=cntF at_ l+cntF at_ l'
 |[],l'=>by simp[cntF]
 |p::l,l'=>by simp only[List.cons_append,cntF,cntF_append at_ l l'];omega
theorem cntF_le(at_:Int):∀l:List (Tm×Int),cntF at_ l≤(l.map fun p=>p.1.size).sum
 |[]=>Nat.le_refl _
 |p::l=>by
  have h1:=cnt_le (at_+p.2) (p.1.vars 0)
  have h2:=p.1.vars_len 0
  have h3:=cntF_le at_ l
  simp only[cntF,List.map_cons,List.sum_cons];omega
theorem tms_size(f:Fm):∀b,((f.tms b).map fun p=>p.1.size).sum+1≤f.size:=by
 induction f using Fm.ind with
 |h f ih=>
  intro b
  rw[Fm.tms_eq,Fm.size_eq]
  have h1:∀l:List Fm,(∀x∈l,∀b,((x.tms b).map fun p=>p.1.size).sum+1≤x.size)→((l.flatMap (Fm.tms (upF f.kind b))).map fun p=>p.1.size).sum≤(l.map Fm.size).sum:=by
   intro l
   induction l<;>grind
  have h2:=h1 f.args ih
  have h3:((f.terms.map fun t=>(t,b)).map fun p=>p.1.size)=f.terms.map Tm.size:=by simp
  grind
theorem tms_le1(f:Fm)(b:Int)(m:Nat):(((f.terms.take m).map fun t=>(t,b)).map fun p:Tm×Int=>p.1.size).sum≤f.size:=by
 have h1:=lsum_take_le Tm.size f.terms m
 have h3:(((f.terms.take m).map fun t=>(t,b)).map fun p:Tm×Int=>p.1.size)=(f.terms.take m).map Tm.size:=by simp[Function.comp_def]
 rw[h3,Fm.size_eq];omega
theorem tms_flat(b:Int)(l:List Fm):((l.flatMap (Fm.tms b)).map fun p:Tm×Int=>p.1.size).sum≤(l.map Fm.size).sum:=by
 induction l with
 |nil=>simp
 |cons x l ih=>
  have h3:=tms_size x b
  grind
theorem tms_le2(f:Fm)(b:Int)(m:Nat)(h:m<f.args.length):((f.terms.map (fun t=>(t,b))++(f.args.take m).flatMap (Fm.tms (upF f.kind b))).map fun p:Tm×Int=>p.1.size).sum+(f.args[m]).size≤f.size:=by
 have h1:=tms_flat (upF f.kind b) (f.args.take m)
 have h2:=lsum_take Fm.size f.args m h
 have h4:=lsum_take_le Fm.size f.args (m+1)
 have h3:((f.terms.map fun t=>(t,b)).map fun p:Tm×Int=>p.1.size)=f.terms.map Tm.size:=by simp
 have e:=f.size_eq
 grind
theorem tms_shape(f:Fm):f.shape=true→∀b,∀p∈f.tms b,p.1.shape=true:=by
 induction f using Fm.ind with
 |h f ih=>
  intro hs b p hp
  rw[Fm.shape_eq,Bool.and_eq_true,Bool.and_eq_true] at hs
  rw[Fm.tms_eq,List.mem_append] at hp
  grind
def Tm.nearE(t:Tm):Bool:=(t.vars 0).all fun p=>decide (p.1≤268435456)
def allP(P:Tm→Bool)(b:Bool)(l:List (Tm×Int)):Bool:=b&&l.all fun p=>P p.1
theorem allP_append(P:Tm→Bool)(b:Bool)(l l':List (Tm×Int)):allP P (allP P b l) l'=allP P b (l++l'):=by simp[allP,Bool.and_assoc]
theorem allP_one(P:Tm→Bool)(b:Bool)(t:Tm)(i:Int):allP P b [(t,i)]=(b&&P t):=by simp[allP]
theorem allP_nil(P:Tm→Bool)(b:Bool):allP P b []=b:=by simp[allP]
def Fm.near(f:Fm):Bool:=(f.tms 0).all fun p=>p.1.near
def Fm.nearE(f:Fm):Bool:=(f.tms 0).all fun p=>p.1.nearE
def Fm.put(f:Fm)(at_:Int)(s:Tm):Fm:=f.re (fun b t=>t.re (putG (at_+b) s) 0) 0
def putFErr(f:Fm)(at_:Int)(s:Tm):Int:=
 if f.err≠0 then f.err else if ¬(0≤at_∧at_≤4096) then 1 else if s.err≠0 then s.err else if f.near=false∨s.near=false then 1 else if(f.size:Int)+cntF at_ (f.tms 0)*(s.size-1)>4096 then 4 else 0
def fillF(n:Int):List Tm→Int→Fm→Fm×Int
 |[],_,f=>(f,0)
 |t::l,k,f=>
  if liftErr t 0 (n-1-k)≠0 then(noFm,liftErr t 0 (n-1-k))
  else if putFErr f 0 (t.re (liftG 0 (n-1-k)) 0)≠0 then(noFm,putFErr f 0 (t.re (liftG 0 (n-1-k)) 0))
  else fillF n l (k+1) (f.put 0 (t.re (liftG 0 (n-1-k)) 0))
def fill(p:Fm)(l:List Tm):Fm×Int:=if p.err≠0 then(noFm,p.err) else if 16<l.length then(noFm,1) else fillF l.length l 0 p
theorem tfull_le(t:Tm):t.shape=true→t.full≤65*t.size:=by
 induction t using Tm.ind with
 |h t ih=>
  intro hs
  rw[Tm.shape_eq,Bool.and_eq_true] at hs
  have h0:t.ty.size≤64:=by
   have:=hs.1
   simp only[Tm.head,Bool.and_eq_true] at this
   have h1:=this.2
   cases hk:typedK t.kind with
   |true=>rw[hk] at h1;simp only[cond_true,Ty.ok,Bool.and_eq_true,decide_eq_true_eq] at h1;omega
   |false=>
    rw[hk] at h1
    have:=Ty.no_of (show t.ty.isNo=true from h1)
    rw[this];decide
  have h1:∀l:List Tm,(∀x∈l,x∈t.args)→(l.map Tm.full).sum≤65*(l.map Tm.size).sum:=by
   intro l
   induction l<;>grind
  have h2:=h1 t.args fun _ h=>h
  rw[Tm.full_eq,Tm.size_eq];omega
theorem ffull_le(f:Fm):f.shape=true→f.full≤65*f.size:=by
 induction f using Fm.ind with
 |h f ih=>
  intro hs
  rw[Fm.shape_eq,Bool.and_eq_true,Bool.and_eq_true] at hs
  obtain⟨⟨hh,ht⟩,ha⟩:=hs
  have h0:f.ty.size≤64:=by
   simp only[Fm.head] at hh
   split at hh
   ·simp only[Bool.and_eq_true] at hh;rw[Ty.no_of hh.1.1];decide
   ·split at hh
    ·simp only[Bool.and_eq_true] at hh;rw[Ty.no_of hh.1.1];decide
    ·split at hh
     ·simp only[Bool.and_eq_true,Ty.ok,decide_eq_true_eq] at hh;omega
     grind
  have h1:∀l:List Fm,(∀x∈l,x∈f.args)→(l.map Fm.full).sum≤65*(l.map Fm.size).sum:=by
   intro l
   induction l<;>grind
  have h2:∀l:List Tm,(∀x∈l,x∈f.terms)→(l.map Tm.full).sum≤65*(l.map Tm.size).sum:=by
   intro l
   induction l with
   |nil=>simp
   |cons x l ih2=>
    intro h
    have h2:=ih2 fun y hy=>h y (by grind)
    have hx:=h x (by simp)
    have h3:=tfull_le x (List.all_eq_true.1 ht x hx)
    grind
  have h3:=h1 f.args fun _ h=>h
  have h4:=h2 f.terms fun _ h=>h
  rw[Fm.full_eq,Fm.size_eq];omega
theorem ferr_full{f:Fm}(h:f.err=0):f.full≤266240:=by
 have h1:=(Fm.err_iff f).1 h
 have:=ffull_le f h1.1
 omega
theorem terr_full{t:Tm}(h:t.err=0):t.full≤266240:=by
 have h1:=err_zero h
 have:=tfull_le t h1.1
 omega
theorem nearF_lt{f:Fm}(h:f.err=0)(hn:f.near=true):∀p∈f.tms 0,∀q∈p.1.vars 0,0≤q.1∧q.1<549755813888:=fun p hp q hq=>by
 have h1:p.1.shape=true:=tms_shape f ((Fm.err_iff f).1 h).1 0 p hp
 have h2:=List.all_eq_true.1 hn p hp
 have h3:=List.all_eq_true.1 h2 q hq
 simp at h3
 exact⟨p.1.vars_nonneg h1 0 q hq,by omega⟩
theorem fnum_le(f:Fm):0≤f.num∧f.num≤4096:=by
 simp only[Fm.num];split
 ·rename_i h;have:=((Fm.err_iff f).1 h).2;omega
 simp
mutual
def Fm.same:Fm→Fm→Bool
 | .mk k h ts xs,.mk k' h' ts' ys=>k==k'&&decide (h=h')&&decide (ts=ts')&&Fm.sames xs ys
def Fm.sames:List Fm→List Fm→Bool
 |[],[]=>true
 |x::xs,y::ys=>x.same y&&Fm.sames xs ys
 |_,_=>false
end
mutual
theorem Fm.same_iff:∀a b:Fm,a.same b=true↔a=b
 | .mk k h ts xs,.mk k' h' ts' ys=>by simp only[Fm.same,Bool.and_eq_true,beq_iff_eq,decide_eq_true_eq,Fm.mk.injEq,Fm.sames_iff xs ys,and_assoc]
theorem Fm.sames_iff:∀a b:List Fm,Fm.sames a b=true↔a=b
 |[],[]=>by simp[Fm.sames]
 |x::xs,y::ys=>by simp only[Fm.sames,Bool.and_eq_true,List.cons.injEq,Fm.same_iff x y,Fm.sames_iff xs ys]
 |[],_::_=>by simp[Fm.sames]
 |_::_,[]=>by simp[Fm.sames]
end
instance:DecidableEq Fm:=fun a b=>decidable_of_iff _ (Fm.same_iff a b)
theorem Fm.eq_iff(x y:Fm):x=y↔x.kind=y.kind∧x.ty=y.ty∧x.terms=y.terms∧x.args=y.args:=by
 cases x;cases y;simp
theorem re_congr{g g':Int→Int→Tm}(t:Tm):∀b,(∀p∈t.vars b,g p.1 p.2=g' p.1 p.2)→t.re g b=t.re g' b:=by
 induction t using Tm.ind with
 |h t ih=>
  intro b h
  by_cases h1:t.kind=1
  ·rw [re_var h1,re_var h1]
   exact h (t.index,b) (by rw[t.vars_eq,if_pos h1];simp)
  ·rw [re_node h1,re_node h1]
   congr 1
   exact List.map_congr_left fun x hx=>ih x hx _ fun p hp=>h p (mem_vars h1 hx hp)
theorem cnt_zero{at_:Int}{l:List (Int×Int)}(h:cnt at_ l=0):∀p∈l,¬p.1-p.2=at_:=by
 intro p hp he
 have h1:p∈l.filter fun p=>p.1-p.2==at_:=List.mem_filter.2 ⟨hp,by grind⟩
 have h2:=List.length_pos_of_mem h1
 simp only[cnt] at h
 omega
theorem put_any{at_ b:Int}{t:Tm}(s s':Tm)(h:cnt at_ (t.vars b)=0):t.re (putG at_ s) b=t.re (putG at_ s') b:=
 re_congr t b fun p hp=>by
  have:=cnt_zero h p hp
  simp only[putG,if_neg this]
theorem re_vars_le{g:Int→Int→Tm}(t:Tm):t.shape=true→∀b b',(∀p∈t.vars b,∃j,g p.1 p.2= .mk 1 j (.mk 0 []) []∧j≤p.1)→∀q∈(t.re g b).vars b',∃p∈t.vars b,q.1≤p.1:=by
 induction t using Tm.ind with
 |h t ih=>
  intro hs b b' h q hq
  by_cases h1:t.kind=1
  ·rw [re_var h1] at hq
   have h2:(t.index,b)∈t.vars b:=by rw[t.vars_eq,if_pos h1];simp
   obtain⟨j,h3,h4⟩:=h _ h2
   rw[h3] at hq
   simp[Tm.vars,Tm.varss] at hq
   grind
  ·rw [re_node h1,Tm.vars_eq,Tm.kind_mk,if_neg h1,Tm.args_mk,List.nil_append] at hq
   obtain⟨y,hy,hq⟩:=List.mem_flatMap.1 hq
   obtain⟨x,hx,rfl⟩:=List.mem_map.1 hy
   obtain⟨p,hp,hle⟩:=ih x hx (shape_args hs x hx) _ _ (fun p hp=>h p (mem_vars h1 hx hp)) q hq
   exact⟨p,mem_vars h1 hx hp,hle⟩
def lowI:Nat→Tm→Tm
 |0,t=>t
 |n+1,t=>(lowI n t).re (putG 0 noTm) 0
def low(n:Nat)(t:Tm):Tm×Bool:=if ∀j,j<n→cnt 0 ((lowI j t).vars 0)=0 then(lowI n t,true) else(noTm,false)
theorem lowI_ok{t:Tm}(hs:t.shape=true){C:Int}(hC:∀q∈t.vars 0,q.1≤C):∀n,(∀j,j<n→cnt 0 ((lowI j t).vars 0)=0)→(lowI n t).shape=true∧(lowI n t).full≤t.full∧∀q∈(lowI n t).vars 0,q.1≤C
 |0,_=>⟨hs,Nat.le_refl _,hC⟩
 |n+1,h=>by
  obtain⟨h1,h2,h3⟩:=lowI_ok hs hC n fun j hj=>h j (by omega)
  have h0:=h n (by omega)
  have hv:(vT 0).shape=true:=by decide
  have e:lowI (n+1) t=(lowI n t).re (putG 0 (vT 0)) 0:=put_any _ _ h0
  have hnn:=(lowI n t).vars_nonneg h1 0
  refine⟨?_,?_,?_⟩
  ·rw [e]
   refine re_shape _ _ _ h1 fun p hp=> ?_
   have h4:=cnt_zero h0 p hp
   have h5:=hnn p hp
   simp only[putG,if_neg h4]
   refine shape_vT _ ?_
   split
   ·have h6:0≤p.2:=vars_snd (lowI n t) 0 p hp
    omega
   omega
  ·have h4:=put_full 0 (vT 0) (lowI n t) hv 0 h1
   grind
  ·intro q hq
   rw[e] at hq
   obtain⟨p,hp,hle⟩:=re_vars_le (lowI n t) h1 0 0 (fun p hp=>by
    have h4:=cnt_zero h0 p hp
    refine⟨if p.1-p.2>0 then p.1-1 else p.1,by simp only[putG,if_neg h4],by omega⟩) q hq
   grind
theorem low_ok{t:Tm}(hs:t.shape=true){C:Int}(hC:∀q∈t.vars 0,q.1≤C)(n:Nat):(low n t).1.full≤t.full+2:=by
 simp only[low]
 split
 ·rename_i h;have:=(lowI_ok hs hC n h).2.1;grind
 ·simp only[noTm]
  show 1+Ty.size (.mk 0 [])+0≤_
  simp[Ty.size,Ty.sizes]
abbrev FMap:=List (Int×Tm)
mutual
def mT(h b:Int):Tm→Tm→FMap→Bool×FMap
 | .mk k i ty as,t,m=>
   if k=1∧0≤i-b∧i-b<h then
    (if(i-b)∈m.map (·.1) then(true,m) else((low b.toNat t).2,m++[(i-b,(low b.toNat t).1)]))
   else if k=t.kind∧ty=t.ty then
    (if k=1 then(decide ((if b≤i then i-h else i)=t.index),m) else mTs h (up k b) as t.args m)
   else(false,m)
def mTs(h b:Int):List Tm→List Tm→FMap→Bool×FMap
 |[],_,m=>(true,m)
 |_::_,[],m=>(false,m)
 |p::ps,t::ts,m=>match mT h b p t m with|(true,m')=>mTs h b ps ts m'|(false,m')=>(false,m')
end
mutual
def mF(h b:Int):Fm→Fm→FMap→Bool×FMap
 | .mk k ty ts as,f,m=>
   if k=f.kind∧ty=f.ty then(match mTs h b ts f.terms m with|(true,m')=>mFs h (upF k b) as f.args m'|(false,m')=>(false,m'))
   else(false,m)
def mFs(h b:Int):List Fm→List Fm→FMap→Bool×FMap
 |[],_,m=>(true,m)
 |_::_,[],m=>(false,m)
 |p::ps,f::fs,m=>match mF h b p f m with|(true,m')=>mFs h b ps fs m'|(false,m')=>(false,m')
end
theorem mT_eq(h b:Int)(p t:Tm)(m:FMap):mT h b p t m=
 if p.kind=1∧0≤p.index-b∧p.index-b<h then
  (if(p.index-b)∈m.map (·.1) then(true,m) else((low b.toNat t).2,m++[(p.index-b,(low b.toNat t).1)]))
 else if p.kind=t.kind∧p.ty=t.ty then
  (if p.kind=1 then(decide ((if b≤p.index then p.index-h else p.index)=t.index),m) else mTs h (up p.kind b) p.args t.args m)
 else(false,m):=by cases p;rfl
theorem mF_eq(h b:Int)(p f:Fm)(m:FMap):mF h b p f m=
 if p.kind=f.kind∧p.ty=f.ty then(match mTs h b p.terms f.terms m with|(true,m')=>mFs h (upF p.kind b) p.args f.args m'|(false,m')=>(false,m'))
 else(false,m):=by cases p;rfl
theorem mTs_go(h b:Int)(t:Tm)(p:Tm)(ps' ts':List Tm):∀(ps ts:List Tm) (m:FMap),ps.length=ts.length→(mTs h b ps ts m).1=true→
 mTs h b (ps++p::ps') (ts++t::ts') m=(match mT h b p t (mTs h b ps ts m).2 with|(true,m')=>mTs h b ps' ts' m'|(false,m')=>(false,m'))
 |[],[],m,_,_=>by rfl
 |[],_::_,m,hl,_=>by grind
 |_::_,[],m,hl,_=>by grind
 |q::ps,u::ts,m,hl,h1=>by
  simp only[List.cons_append,mTs] at h1 ⊢
  generalize mT h b q u m=r at h1 ⊢
  obtain⟨b1,m1⟩:=r
  cases b1 with
  |false=>cases h1
  |true=>exact mTs_go h b t p ps' ts' ps ts m1 (by grind) h1
theorem mFs_go(h b:Int)(t:Fm)(p:Fm)(ps' ts':List Fm):∀(ps ts:List Fm) (m:FMap),ps.length=ts.length→(mFs h b ps ts m).1=true→
 mFs h b (ps++p::ps') (ts++t::ts') m=(match mF h b p t (mFs h b ps ts m).2 with|(true,m')=>mFs h b ps' ts' m'|(false,m')=>(false,m'))
 |[],[],m,_,_=>by rfl
 |[],_::_,m,hl,_=>by grind
 |_::_,[],m,hl,_=>by grind
 |q::ps,u::ts,m,hl,h1=>by
  simp only[List.cons_append,mFs] at h1 ⊢
  generalize mF h b q u m=r at h1 ⊢
  obtain⟨b1,m1⟩:=r
  cases b1 with
  |false=>cases h1
  |true=>exact mFs_go h b t p ps' ts' ps ts m1 (by grind) h1
theorem take_drop_at{α:Type}(l:List α)(k:Nat)(h:k<l.length):l=l.take k++l[k]::l.drop (k+1):=by
 simp
theorem mTs_take{h b:Int}{ps ts:List Tm}{m:FMap}{k:Nat}(hl:ps.length=ts.length)(hk:k<ps.length)(h1:(mTs h b (ps.take k) (ts.take k) m).1=true):
 mTs h b (ps.take (k+1)) (ts.take (k+1)) m=mT h b ps[k] (ts[k]'(by omega)) (mTs h b (ps.take k) (ts.take k) m).2:=by
 have hk2:k<ts.length:=by omega
 rw[←List.take_append_getElem hk,←List.take_append_getElem hk2,mTs_go h b _ _ [] [] _ _ m (by grind) h1]
 generalize mT h b ps[k] ts[k] _=r
 obtain⟨b1,m1⟩:=r
 cases b1<;>rfl
theorem mTs_stop{h b:Int}{ps ts:List Tm}{m:FMap}{k:Nat}(hl:ps.length=ts.length)(hk:k<ps.length)(h1:(mTs h b (ps.take k) (ts.take k) m).1=true)(h2:(mT h b ps[k] (ts[k]'(by omega)) (mTs h b (ps.take k) (ts.take k) m).2).1=false):
 mTs h b ps ts m=(false,(mT h b ps[k] (ts[k]'(by omega)) (mTs h b (ps.take k) (ts.take k) m).2).2):=by
 have hk2:k<ts.length:=by omega
 have e:=mTs_go h b ts[k] ps[k] (ps.drop (k+1)) (ts.drop (k+1)) (ps.take k) (ts.take k) m (by grind) h1
 rw[←take_drop_at ps k hk,←take_drop_at ts k hk2] at e
 grind
theorem mFs_take{h b:Int}{ps ts:List Fm}{m:FMap}{k:Nat}(hl:ps.length=ts.length)(hk:k<ps.length)(h1:(mFs h b (ps.take k) (ts.take k) m).1=true):
 mFs h b (ps.take (k+1)) (ts.take (k+1)) m=mF h b ps[k] (ts[k]'(by omega)) (mFs h b (ps.take k) (ts.take k) m).2:=by
 have hk2:k<ts.length:=by omega
 rw[←List.take_append_getElem hk,←List.take_append_getElem hk2,mFs_go h b _ _ [] [] _ _ m (by grind) h1]
 generalize mF h b ps[k] ts[k] _=r
 obtain⟨b1,m1⟩:=r
 cases b1<;>rfl
theorem mFs_stop{h b:Int}{ps ts:List Fm}{m:FMap}{k:Nat}(hl:ps.length=ts.length)(hk:k<ps.length)(h1:(mFs h b (ps.take k) (ts.take k) m).1=true)(h2:(mF h b ps[k] (ts[k]'(by omega)) (mFs h b (ps.take k) (ts.take k) m).2).1=false):
 mFs h b ps ts m=(false,(mF h b ps[k] (ts[k]'(by omega)) (mFs h b (ps.take k) (ts.take k) m).2).2):=by
 have hk2:k<ts.length:=by omega
 have e:=mFs_go h b ts[k] ps[k] (ps.drop (k+1)) (ts.drop (k+1)) (ps.take k) (ts.take k) m (by grind) h1
 rw[←take_drop_at ps k hk,←take_drop_at ts k hk2] at e
 grind
theorem head_args{t u:Tm}(ht:t.shape=true)(hu:u.shape=true)(hk:t.kind=u.kind):t.args.length=u.args.length:=by
 have h1:=arK_len ht
 have h2:=arK_len hu
 grind
theorem head_fm{t u:Fm}(ht:t.shape=true)(hu:u.shape=true)(hk:t.kind=u.kind):t.terms.length=u.terms.length∧t.args.length=u.args.length:=by
 rw[Fm.shape_eq,Bool.and_eq_true,Bool.and_eq_true] at ht hu
 have h1:=ht.1.1
 have h2:=hu.1.1
 simp only[Fm.head,hk] at h1 h2
 grind
theorem vars_idx{t:Tm}:∀{b b':Int},∀q∈t.vars b,∃q'∈t.vars b',q'.1=q.1:=by
 induction t using Tm.ind with
 |h t ih=>
  intro b b' q hq
  rw[Tm.vars_eq,List.mem_append] at hq
  rcases hq with hq|hq
  ·by_cases h1:t.kind=1
   ·rw [if_pos h1,List.mem_singleton] at hq
    exact⟨(t.index,b'),by rw[Tm.vars_eq,if_pos h1];simp,by rw[hq]⟩
   grind
  ·obtain ⟨x,hx,hq⟩:=List.mem_flatMap.1 hq
   obtain⟨q',h1,h2⟩:=ih x hx (b':=up t.kind b') q hq
   exact⟨q',by rw[Tm.vars_eq];grind,h2⟩
theorem vars_bd{t x:Tm}{C:Int}(h:∀q∈t.vars 0,q.1≤C)(hx:x∈t.args):∀q∈x.vars 0,q.1≤C:=fun q hq=>by
 obtain⟨q',h1,h2⟩:=vars_idx (b':=up t.kind 0) q hq
 rw[←h2]
 exact h q' (by rw[Tm.vars_eq];grind)
theorem tms_idx{f:Fm}:∀{b b':Int},∀q∈f.tms b,∃q'∈f.tms b',q'.1=q.1:=by
 induction f using Fm.ind with
 |h f ih=>
  intro b b' q hq
  rw[Fm.tms_eq,List.mem_append] at hq
  rcases hq with hq|hq
  ·obtain ⟨t,ht,rfl⟩:=List.mem_map.1 hq
   exact⟨(t,b'),by rw[Fm.tms_eq];grind,rfl⟩
  ·obtain ⟨x,hx,hq⟩:=List.mem_flatMap.1 hq
   obtain⟨q',h1,h2⟩:=ih x hx (b':=upF f.kind b') q hq
   exact⟨q',by rw[Fm.tms_eq];grind,h2⟩
theorem nearE_terms{f:Fm}(h:f.nearE=true){t:Tm}(ht:t∈f.terms):∀q∈t.vars 0,q.1≤268435456:=fun q hq=>by
 have h1:(t,(0:Int))∈f.tms 0:=by rw[Fm.tms_eq];grind
 have h2:t.nearE=true:=List.all_eq_true.1 h _ h1
 have h3:=List.all_eq_true.1 h2 q hq
 grind
theorem nearE_args{f x:Fm}(h:f.nearE=true)(hx:x∈f.args):x.nearE=true:=List.all_eq_true.2 fun q hq=>by
 obtain⟨q',h1,h2⟩:=tms_idx (b':=upF f.kind 0) q hq
 have h3:q'∈f.tms 0:=by rw[Fm.tms_eq];grind
 rw[←h2]
 exact List.all_eq_true.1 h q' h3
theorem fshape_args{f x:Fm}(h:f.shape=true)(hx:x∈f.args):x.shape=true:=by
 rw[Fm.shape_eq,Bool.and_eq_true] at h
 grind
theorem fshape_terms{f:Fm}(h:f.shape=true){t:Tm}(ht:t∈f.terms):t.shape=true:=by
 rw[Fm.shape_eq,Bool.and_eq_true,Bool.and_eq_true] at h
 grind
theorem fput_full(at_:Int)(s:Tm)(hs:s.shape=true)(f:Fm):f.shape=true→∀b,(f.re (fun b t=>t.re (putG (at_+b) s) 0) b).full≤f.full+cntF at_ (f.tms b)*s.full:=by
 induction f using Fm.ind with
 |h f ih=>
  intro hf b
  have e3:(f.re (fun b t=>t.re (putG (at_+b) s) 0) b).full=1+f.ty.size+((f.terms.map fun t=>t.re (putG (at_+b) s) 0).map Tm.full).sum+((f.args.map (Fm.re (fun b t=>t.re (putG (at_+b) s) 0) (upF f.kind b))).map Fm.full).sum:=by
   rw[Fm.re_eq,Fm.full_eq];rfl
  rw[e3,f.full_eq,Fm.tms_eq,cntF_append,Nat.add_mul,List.map_map,List.map_map]
  have h1:∀l:List Tm,(∀x∈l,x∈f.terms)→(l.map (Tm.full∘fun t=>t.re (putG (at_+b) s) 0)).sum≤(l.map Tm.full).sum+cntF at_ (l.map fun t=>(t,b))*s.full:=by
   intro l
   induction l with
   |nil=>simp
   |cons x l ihl=>
    intro hl
    have h2:=put_full (at_+b) s x hs 0 (fshape_terms hf (hl x (by simp)))
    have h3:=ihl fun y hy=>hl y (by grind)
    simp only[List.map_cons,List.sum_cons,Function.comp_apply,cntF,Nat.add_mul]
    omega
  have h2:∀l:List Fm,(∀x∈l,x∈f.args)→(l.map (Fm.full∘Fm.re (fun b t=>t.re (putG (at_+b) s) 0) (upF f.kind b))).sum≤(l.map Fm.full).sum+cntF at_ (l.flatMap (Fm.tms (upF f.kind b)))*s.full:=by
   intro l
   induction l with
   |nil=>simp
   |cons x l ihl=>
    intro hl
    have h2:=ih x (hl x (by simp)) (fshape_args hf (hl x (by simp))) (upF f.kind b)
    have h3:=ihl fun y hy=>hl y (by grind)
    simp only[List.map_cons,List.sum_cons,Function.comp_apply,List.flatMap_cons,cntF_append,Nat.add_mul]
    omega
  grind
theorem putFErr_zero{f:Fm}{at_:Int}{s:Tm}(h:putFErr f at_ s=0):f.err=0∧s.err=0∧f.near=true∧s.near=true∧(f.size:Int)+cntF at_ (f.tms 0)*(s.size-1)≤4096:=by
 simp only[putFErr] at h
 grind
theorem putF_bd{f:Fm}{at_:Int}{s:Tm}(h:putFErr f at_ s=0):(f.put at_ s).full≤1200000000:=by
 obtain⟨h1,h2,_,_,_⟩:=putFErr_zero h
 have h3:=fput_full at_ s (err_zero h2).1 f ((Fm.err_iff f).1 h1).1 0
 have h4:=ferr_full h1
 have h5:=terr_full h2
 have h6:=cntF_le at_ (f.tms 0)
 have h7:=tms_size f 0
 have h8:=((Fm.err_iff f).1 h1).2
 have h9:cntF at_ (f.tms 0)*s.full≤4096*266240:=Nat.mul_le_mul (by omega) h5
 show(f.re _ 0).full≤_
 omega
theorem fillF_go(n:Int)(t:Tm)(l2:List Tm):∀(l1:List Tm) (k:Int) (f:Fm),(fillF n l1 k f).2=0→fillF n (l1++t::l2) k f=fillF n (t::l2) (k+l1.length) (fillF n l1 k f).1
 |[],k,f,_=>by simp[fillF]
 |u::l1,k,f,h=>by
  simp only[List.cons_append,fillF] at h ⊢
  split
  ·grind
  ·rename_i h1
   rw[if_neg h1] at h
   split
   ·grind
   ·rename_i h2
    rw[if_neg h2] at h
    rw[fillF_go n t l2 l1 (k+1) _ h]
    simp only[fillF,List.length_cons,Int.natCast_add,Int.natCast_one,Int.add_assoc,Int.add_comm (l1.length:Int) 1]
theorem fillF_bd(n:Int):∀(l:List Tm) (k:Int) (f:Fm),f.full≤1200000000→(fillF n l k f).1.full≤1200000000
 |[],k,f,h=>h
 |t::l,k,f,h=>by
  simp only[fillF]
  split
  ·simp [noFm,Fm.full,Fm.fulls,Ty.size,Ty.sizes]
  ·split
   ·simp [noFm,Fm.full,Fm.fulls,Ty.size,Ty.sizes]
   ·rename_i h2
    exact fillF_bd n l (k+1) _ (putF_bd (Classical.not_not.1 h2))
def lookT:FMap→Int→Option Tm
 |[],_=>none
 |p::m,k=>if p.1=k then some p.2 else lookT m k
def zeroT:Tm:= .mk 4 0 (.mk 0 []) []
def outs(m:FMap)(n:Nat):List Tm:=(List.range n).map fun k:Nat=>(lookT m (k:Int)).getD zeroT
def matchF(p:Fm)(h:Int)(f:Fm):List Tm×Int:=
 if p.err≠0 then([],p.err) else if f.err≠0 then([],f.err) else if ¬(0≤h∧h≤16)∨p.nearE=false∨f.nearE=false then([],1)
 else if(mF h 0 p f []).1=false then([],11)
 else if(fill p (outs (mF h 0 p f []).2 h.toNat)).2≠0∨(fill p (outs (mF h 0 p f []).2 h.toNat)).1≠f then([],11)
 else if((mF h 0 p f []).2.length:Int)<h then([],13) else(outs (mF h 0 p f []).2 h.toNat,0)
theorem lookT_mem:∀{m:FMap} {k:Int} {t:Tm},lookT m k=some t→(k,t)∈m
 |[],k,t,h=>by cases h
 |p::m,k,t,h=>by
  simp only[lookT] at h
  split at h
  ·grind
  ·exact List.mem_cons_of_mem _ (lookT_mem h)
theorem mT_new(h:Int)(C:Nat)(p:Tm):∀(b:Int) (t:Tm) (m:FMap),t.shape=true→t.nearE=true→t.full≤C→∀q∈(mT h b p t m).2,q∈m∨q.2.full≤C+2:=by
 induction p using Tm.ind with
 |h p ih=>
  intro b t m hs hn hC q hq
  rw[mT_eq] at hq
  split at hq
  ·split at hq
   ·grind
   ·rcases List.mem_append.1 hq with hq|hq
    ·grind
    ·rw [List.mem_singleton] at hq
     subst hq
     have:=low_ok hs (C:=268435456) (fun q hq=>by have:=List.all_eq_true.1 hn q hq;grind) b.toNat
     grind
  ·split at hq
   ·split at hq
    ·grind
    ·have key:∀(ps ts:List Tm) (m:FMap),(∀x∈ps,x∈p.args)→(∀x∈ts,x∈t.args)→∀q∈(mTs h (up p.kind b) ps ts m).2,q∈m∨q.2.full≤C+2:=by
      intro ps
      induction ps with
      |nil=>intro ts m _ _ q hq;exact .inl hq
      |cons x ps ihp=>
       intro ts m h1 h2 q hq
       cases ts with
       |nil=>exact .inl hq
       |cons u ts=>
        have hu:=h2 u (by simp)
        have h3:=ih x (h1 x (by simp)) (up p.kind b) u m (shape_args hs u hu)
         (List.all_eq_true.2 fun q hq=>by
          have:=vars_bd (C:=268435456) (fun q hq=>by have:=List.all_eq_true.1 hn q hq;grind) hu q hq
          grind)
         (by have e1:=t.full_eq;have e2:=lsum_mem Tm.full hu;omega)
        simp only[mTs] at hq
        grind
     grind
   grind
theorem mTs_new(h:Int)(C:Nat)(b:Int):∀(ps ts:List Tm) (m:FMap),(∀t∈ts,t.shape=true∧t.nearE=true∧t.full≤C)→∀q∈(mTs h b ps ts m).2,q∈m∨q.2.full≤C+2
 |[],ts,m,_,q,hq=> .inl hq
 |p::ps,[],m,_,q,hq=> .inl hq
 |p::ps,t::ts,m,hts,q,hq=>by
  obtain⟨h1,h2,h3⟩:=hts t (by simp)
  have h4:=mT_new h C p b t m h1 h2 h3
  simp only[mTs] at hq
  generalize mT h b p t m=r at hq h4
  obtain⟨b1,m1⟩:=r
  cases b1 with
  |false=>grind
  |true=>
   rcases mTs_new h C b ps ts m1 (fun y hy=>hts y (by grind)) q hq with h5|h5
   all_goals grind
theorem nearE_term{f:Fm}(h:f.nearE=true){t:Tm}(ht:t∈f.terms):t.nearE=true:=List.all_eq_true.2 fun q hq=>by
 have:=nearE_terms h ht q hq
 grind
theorem mF_new(h:Int)(C:Nat)(p:Fm):∀(b:Int) (f:Fm) (m:FMap),f.shape=true→f.nearE=true→f.full≤C→∀q∈(mF h b p f m).2,q∈m∨q.2.full≤C+2:=by
 induction p using Fm.ind with
 |h p ih=>
  intro b f m hs hn hC q hq
  have e1:=f.full_eq
  rw[mF_eq] at hq
  split at hq
  ·have h0:=mTs_new h C b p.terms f.terms m fun t ht=>⟨fshape_terms hs ht,nearE_term hn ht,by have:=lsum_mem Tm.full ht;omega⟩
   generalize mTs h b p.terms f.terms m=r at hq h0
   obtain⟨b0,m0⟩:=r
   cases b0 with
   |false=>grind
   |true=>
    have key:∀(ps ts:List Fm) (m:FMap),(∀x∈ps,x∈p.args)→(∀x∈ts,x∈f.args)→∀q∈(mFs h (upF p.kind b) ps ts m).2,q∈m∨q.2.full≤C+2:=by
     intro ps
     induction ps with
     |nil=>intro ts m _ _ q hq;exact .inl hq
     |cons x ps ihp=>
      intro ts m h1 h2 q hq
      cases ts with
      |nil=>exact .inl hq
      |cons u ts=>
       have hu:=h2 u (by simp)
       have h3:=ih x (h1 x (by simp)) (upF p.kind b) u m (fshape_args hs hu) (nearE_args hn hu) (by have e2:=lsum_mem Fm.full hu;omega)
       simp only[mFs] at hq
       grind
    grind
  grind
theorem outs_bd{p f:Fm}{h:Int}(hf:f.err=0)(hn:f.nearE=true)(k:Int):((lookT (mF h 0 p f []).2 k).getD zeroT).full≤266250:=by
 cases hl:lookT (mF h 0 p f []).2 k with
 |none=>simp[zeroT,Tm.full,Tm.fulls,Ty.size,Ty.sizes]
 |some t=>
  have h1:=mF_new h 266240 p 0 f [] ((Fm.err_iff f).1 hf).1 hn (ferr_full hf) _ (lookT_mem hl)
  grind
theorem re_re(g g':Int→Int→Tm)(t:Tm):∀b,(t.re g b).re g' b=t.re (fun i c=>(g i c).re g' c) b:=by
 induction t using Tm.ind with
 |h t ih=>
  intro b
  by_cases h1:t.kind=1
  ·rw [re_var h1,re_var h1]
  ·rw [re_node h1,re_node h1,re_node (t:=Tm.mk _ _ _ _) (by simp_all)]
   simp_all
theorem vars_re(g:Int→Int→Tm)(t:Tm):∀b,t.shape=true→(t.re g b).vars b=(t.vars b).flatMap fun p=>(g p.1 p.2).vars p.2:=by
 induction t using Tm.ind with
 |h t ih=>
  intro b hs
  by_cases h1:t.kind=1
  ·rw [re_var h1,vars_var hs h1];simp
  ·rw [re_node h1,vars_node h1,vars_node (t:=Tm.mk _ _ _ _) (by simp_all)]
   simp only[Tm.kind_mk,Tm.args_mk,List.flatMap_assoc,List.flatMap_map]
   have:∀l:List Tm,(∀x∈l,x∈t.args)→l.flatMap (fun x=>(x.re g (up t.kind b)).vars (up t.kind b))=l.flatMap fun x=>(x.vars (up t.kind b)).flatMap fun p=>(g p.1 p.2).vars p.2:=by
    intro l
    induction l with
    |nil=>simp
    |cons x l ihl=>
     intro h
     rw[List.flatMap_cons,List.flatMap_cons,ihl fun y hy=>h y (by grind),ih x (h x (by simp)) _ (shape_args hs x (h x (by simp)))]
   grind
theorem up_add(k b c:Int):up k (b+c)=up k b+c:=by simp only[up];omega
theorem vars_shift(t:Tm):∀b c:Int,t.vars (b+c)=(t.vars b).map fun p=>(p.1,p.2+c):=by
 induction t using Tm.ind with
 |h t ih=>
  intro b c
  rw[t.vars_eq,t.vars_eq,List.map_append,up_add]
  congr 1
  ·grind
  ·rw [List.map_flatMap]
   have:∀l:List Tm,(∀x∈l,x∈t.args)→l.flatMap (Tm.vars (up t.kind b+c))=l.flatMap fun x=>(x.vars (up t.kind b)).map fun p=>(p.1,p.2+c):=by
    intro l
    induction l<;>simp_all
   grind
theorem re_shift(g:Int→Int→Tm)(c:Int)(t:Tm):∀b,t.re g (b+c)=t.re (fun i d=>g i (d+c)) b:=by
 induction t using Tm.ind with
 |h t ih=>
  intro b
  by_cases h1:t.kind=1
  ·rw [re_var h1,re_var h1]
  ·rw [re_node h1,re_node h1,up_add]
   simp_all
theorem re_shift0(g:Int→Int→Tm)(c:Int)(t:Tm):t.re g c=t.re (fun i d=>g i (d+c)) 0:=by
 have:=re_shift g c t 0
 grind
theorem cnt_map{f:Int×Int→Int×Int}{a a':Int}(l:List (Int×Int))(h:∀p∈l,((f p).1-(f p).2=a↔p.1-p.2=a')):cnt a (l.map f)=cnt a' l:=by
 induction l with
 |nil=>rfl
 |cons p l ih=>
  have h1:=ih fun q hq=>h q (by grind)
  have h2:=h p (by simp)
  rw[List.map_cons,show f p::l.map f=[f p]++l.map f from rfl,show p::l=[p]++l from rfl,cnt_append,cnt_append,h1,cnt_one,cnt_one]
  grind
theorem cnt_shift(a b:Int)(t:Tm):cnt a (t.vars b)=cnt (a+b) (t.vars 0):=by
 have:=vars_shift t 0 b
 rw[Int.zero_add] at this
 rw[this]
 exact cnt_map _ fun p _=>by omega
theorem re_vT(j:Int)(g:Int→Int→Tm)(c:Int):(vT j).re g c=g j c:=by rfl
theorem vars_vT(j c:Int):(vT j).vars c=[(j,c)]:=by rfl
theorem liftG_eq(fr by_ i b:Int):liftG fr by_ i b=vT (if i-b≥fr then i+by_ else i):=rfl
theorem putG_eq(at_:Int)(s:Tm)(i b:Int):putG at_ s i b=if i-b=at_ then s.re (liftG 0 (at_+b)) 0 else vT (if i-b>at_ then i-1 else i):=rfl
theorem re_id{g:Int→Int→Tm}(t:Tm):∀b,t.shape=true→(∀p∈t.vars b,g p.1 p.2=vT p.1)→t.re g b=t:=by
 induction t using Tm.ind with
 |h t ih=>
  intro b hs hg
  by_cases h1:t.kind=1
  ·rw [re_var h1]
   have h2:=hg (t.index,b) (by rw[vars_var hs h1];simp)
   rw[h2]
   exact(var_vT hs h1).symm
  ·rw [re_node h1]
   have h2:t.args.map (Tm.re g (up t.kind b))=t.args:=by
    conv=>rhs;rw[←List.map_id t.args]
    exact List.map_congr_left fun x hx=>ih x hx _ (shape_args hs x hx) fun p hp=>hg p (mem_vars h1 hx hp)
   simp_all
theorem lift_vars(fr by_:Int)(t:Tm)(b:Int)(hs:t.shape=true):(t.re (liftG fr by_) b).vars b=(t.vars b).map fun p=>(if p.1-p.2≥fr then p.1+by_ else p.1,p.2):=by
 rw[vars_re _ _ _ hs]
 simp only[liftG_eq,vars_vT]
 rw[List.map_eq_flatMap]
theorem lift_lift(t:Tm)(a b:Int)(ha:0≤a):(t.re (liftG 0 a) 0).re (liftG 0 b) 0=t.re (liftG 0 (a+b)) 0:=by
 rw[re_re]
 refine re_congr t 0 fun p hp=> ?_
 simp only[liftG_eq,re_vT]
 grind
theorem lift_zero(t:Tm)(hs:t.shape=true)(fr:Int):t.re (liftG fr 0) 0=t:=
 re_id t 0 hs fun p _=>by simp only[liftG_eq];simp
theorem lowI_eq{t:Tm}(hs:t.shape=true):∀n:Nat,(∀j:Nat,j<n→cnt j (t.vars 0)=0)→lowI n t=t.re (liftG n (-n)) 0
 |0,_=>by rw[lowI];exact(lift_zero t hs 0).symm
 |n+1,h=>by
  rw[lowI,lowI_eq hs n fun j hj=>h j (by omega),re_re]
  refine re_congr t 0 fun p hp=> ?_
  simp only[liftG_eq,re_vT,putG_eq]
  have h1:∀j:Nat,j≤n→¬p.1-p.2=j:=fun j hj=>cnt_zero (h j (by omega)) p hp
  by_cases h2:p.1-p.2<0
  ·grind
  ·have h3:=h1 (p.1-p.2).toNat
   grind
theorem low_cnt{t:Tm}(hs:t.shape=true)(n:Nat)(h:∀j:Nat,j<n→cnt j (t.vars 0)=0):cnt 0 ((lowI n t).vars 0)=cnt n (t.vars 0):=by
 rw[lowI_eq hs n h,lift_vars _ _ _ _ hs]
 refine cnt_map _ fun p hp=> ?_
 have h1:∀j:Nat,j<n→¬p.1-p.2=j:=fun j hj=>cnt_zero (h j hj) p hp
 grind
theorem low_iff{t:Tm}(hs:t.shape=true):∀n:Nat,(∀j,j<n→cnt 0 ((lowI j t).vars 0)=0)↔∀j:Nat,j<n→cnt j (t.vars 0)=0
 |0=>⟨fun _ j hj=>by omega,fun _ j hj=>by omega⟩
 |n+1=>by
  have ih:=low_iff hs n
  constructor
  ·intro h
   have h1:=ih.1 fun j hj=>h j (by omega)
   intro j hj
   by_cases hjn:j=n
   ·subst hjn;rw[←low_cnt hs j h1];grind
   grind
  ·intro h
   have h1:∀j:Nat,j<n→cnt j (t.vars 0)=0:=fun j hj=>h j (by omega)
   intro j hj
   rw[low_cnt hs j fun i hi=>h i (by omega)]
   grind
theorem low_yes{t:Tm}(hs:t.shape=true)(n:Nat)(h:∀j:Nat,j<n→cnt j (t.vars 0)=0):low n t=(t.re (liftG n (-n)) 0,true):=by
 simp only[low];rw[if_pos ((low_iff hs n).2 h),lowI_eq hs n h]
theorem cnt_lift_no{t:Tm}(hs:t.shape=true)(n:Int)(j:Int)(h0:0≤j)(hj:j<n):cnt j ((t.re (liftG 0 n) 0).vars 0)=0:=by
 rw[lift_vars _ _ _ _ hs]
 have:∀l:List (Int×Int),cnt j (l.map fun p=>(if p.1-p.2≥0 then p.1+n else p.1,p.2))=0:=by
  intro l
  induction l with
  |nil=>rfl
  |cons p l ih=>
   rw[List.map_cons,show ∀(x:Int×Int) l,x::l=[x]++l from fun _ _=>rfl,cnt_append,ih,cnt_one,if_neg]
   omega
 grind
theorem low_lift{s:Tm}(hs:s.shape=true)(n:Nat):low n (s.re (liftG 0 n) 0)=(s,true):=by
 rw[low_yes (lift_shape 0 hs (by omega)) n fun j hj=>cnt_lift_no hs n j (by omega) (by omega),re_re]
 congr 1
 refine re_id s 0 hs fun p hp=> ?_
 simp only[liftG_eq,re_vT]
 grind
def simG(l:List Tm)(i b:Int):Tm:=if i<b then vT i else if i-b<l.length then(l.getD (i-b).toNat noTm).re (liftG 0 b) 0 else vT (i-l.length)
def simT(l:List Tm)(b:Int)(t:Tm):Tm:=t.re (simG l) b
theorem simT_nil{t:Tm}(hs:t.shape=true)(b:Int):simT [] b t=t:=
 re_id t b hs fun p _=>by
  simp only[simG]
  grind
theorem sim_put{t s:Tm}(l:List Tm)(b:Int)(hb:0≤b)(ht:t.shape=true)(hs:s.shape=true):
 simT l b (t.re (putG (0+b) (s.re (liftG 0 l.length) 0)) 0)=simT (s::l) b t:=by
 simp only[simT]
 rw[re_shift0 _ b,re_re,re_shift0 _ b]
 refine re_congr t 0 fun p hp=> ?_
 have h1:=vars_snd t 0 p hp
 have h2:=t.vars_nonneg ht 0 p hp
 obtain⟨i,c⟩:=p
 simp only at h1 h2 ⊢
 rw[putG_eq,Int.zero_add]
 by_cases h3:i-c=b
 ·rw [if_pos h3,lift_lift _ _ _ (by omega),re_shift0 _ c,re_re]
  have e:simG (s::l) i (c+b)=s.re (liftG 0 (c+b)) 0:=by
   simp only[simG]
   grind
  rw[e]
  refine re_congr s 0 fun q hq=> ?_
  obtain⟨j,d⟩:=q
  have h4:=vars_snd s 0 _ hq
  simp only[liftG_eq,re_vT] at h4 ⊢
  by_cases h5:j-d≥0
  ·rw [if_pos h5,if_pos h5]
   simp only[simG]
   grind
  ·rw [if_neg h5,if_neg h5]
   simp only[simG]
   grind
 ·rw [if_neg h3,re_vT]
  by_cases h4:i-c>b
  ·rw [if_pos h4]
   simp only[simG]
   rw[if_neg (show ¬i-1<c+b by omega),if_neg (show ¬i<c+b by omega)]
   by_cases h5:i-1-(c+b)<l.length
   ·rw [if_pos h5,if_pos (by grind)]
    rw[show(i-(c+b)).toNat=(i-1-(c+b)).toNat+1 by omega];rfl
   grind
  ·rw [if_neg h4]
   simp only[simG]
   grind
theorem Fm.re_re(G G':Int→Tm→Tm)(f:Fm):∀b,(f.re G b).re G' b=f.re (fun b t=>G' b (G b t)) b:=by
 induction f using Fm.ind with
 |h f ih=>
  intro b
  rw[Fm.re_eq,Fm.re_eq,Fm.re_eq]
  simp_all
theorem Fm.re_congr{G G':Int→Tm→Tm}(f:Fm):∀b,(∀p∈f.tms b,G p.2 p.1=G' p.2 p.1)→f.re G b=f.re G' b:=by
 induction f using Fm.ind with
 |h f ih=>
  intro b h
  rw[Fm.re_eq,Fm.re_eq]
  congr 1
  ·exact List.map_congr_left fun x hx=>h (x,b) (by rw[Fm.tms_eq];grind)
  ·exact List.map_congr_left fun x hx=>ih x hx _ fun p hp=>h p (by rw[Fm.tms_eq];grind)
theorem Fm.re_id{G:Int→Tm→Tm}(f:Fm):∀b,(∀p∈f.tms b,G p.2 p.1=p.1)→f.re G b=f:=by
 induction f using Fm.ind with
 |h f ih=>
  intro b h
  rw[Fm.re_eq]
  have h1:f.terms.map (G b)=f.terms:=by
   conv=>rhs;rw[←List.map_id f.terms]
   exact List.map_congr_left fun x hx=>h (x,b) (by rw[Fm.tms_eq];grind)
  have h2:f.args.map (Fm.re G (upF f.kind b))=f.args:=by
   conv=>rhs;rw[←List.map_id f.args]
   exact List.map_congr_left fun x hx=>ih x hx _ fun p hp=>h p (by rw[Fm.tms_eq];grind)
  rw[h1,h2];cases f;rfl
theorem upF_le(k b:Int):b≤upF k b∧upF k b≤b+1:=by simp only[upF];omega
theorem tms_snd{f:Fm}:∀{b:Int},∀p∈f.tms b,b≤p.2:=by
 induction f using Fm.ind with
 |h f ih=>
  intro b p hp
  rw[Fm.tms_eq,List.mem_append] at hp
  rcases hp with hp|hp
  ·grind
  ·obtain ⟨x,hx,hp⟩:=List.mem_flatMap.1 hp
   have:=ih x hx p hp
   have:=upF_le f.kind b
   omega
def Fm.sim(l:List Tm)(b:Int)(f:Fm):Fm:=f.re (simT l) b
theorem Fm.sim_put{f:Fm}{s:Tm}(l:List Tm)(hf:f.shape=true)(hs:s.shape=true):(f.put 0 (s.re (liftG 0 l.length) 0)).sim l 0=f.sim (s::l) 0:=by
 simp only[Fm.put,Fm.sim]
 rw[Fm.re_re]
 exact Fm.re_congr f 0 fun p hp=>Go.Ab.sim_put l p.2 (tms_snd p hp) (tms_shape f hf 0 p hp) hs
theorem Fm.sim_nil{f:Fm}(hf:f.shape=true):f.sim [] 0=f:=Fm.re_id f 0 fun p hp=>simT_nil (tms_shape f hf 0 p hp) p.2
theorem liftErr_zero{t:Tm}{fr by_:Int}(h:liftErr t fr by_=0):t.err=0∧t.near=true∧(0≤by_∧by_≤4096):=by
 simp only[liftErr] at h
 grind
theorem fput_shape{f:Fm}{at_:Int}{s:Tm}(ha:0≤at_)(hs:s.shape=true)(hf:f.shape=true):(f.put at_ s).shape=true:=by
 have key:∀(f:Fm) (b:Int),0≤b→f.shape=true→(f.re (fun b t=>t.re (putG (at_+b) s) 0) b).shape=true:=by
  intro f
  induction f using Fm.ind with
  |h f ih=>
   intro b hb hf
   have h0:=hf
   rw[Fm.shape_eq,Bool.and_eq_true,Bool.and_eq_true] at h0
   obtain⟨⟨h1,h2⟩,h3⟩:=h0
   rw[Fm.re_eq,Fm.shape_eq,Bool.and_eq_true,Bool.and_eq_true]
   refine⟨⟨?_,?_⟩,?_⟩
   ·simp only[Fm.head,Fm.kind_mk,Fm.ty_mk,Fm.terms_mk,Fm.args_mk,List.length_map] at h1 ⊢
    exact h1
   ·rw [Fm.terms_mk,List.all_eq_true]
    intro y hy
    obtain⟨x,hx,rfl⟩:=List.mem_map.1 hy
    exact put_shape 0 hs (List.all_eq_true.1 h2 x hx) (by omega) (by omega) fun p hp=>vars_snd x 0 p hp
   ·rw [Fm.args_mk,List.all_eq_true]
    intro y hy
    obtain⟨x,hx,rfl⟩:=List.mem_map.1 hy
    have:=upF_le f.kind b
    grind
 exact key f 0 (by omega) hf
theorem fillF_sim(n:Int):∀(l:List Tm) (k:Int) (f:Fm),n=k+l.length→f.shape=true→(fillF n l k f).2=0→(fillF n l k f).1=f.sim l 0
 |[],k,f,_,hf,_=>by simp only[fillF];exact(Fm.sim_nil hf).symm
 |t::l,k,f,hn,hf,h=>by
  simp only[fillF] at h ⊢
  simp only[List.length_cons] at hn
  have e:n-1-k=l.length:=by omega
  rw[e] at h ⊢
  by_cases h1:liftErr t 0 l.length≠0
  ·grind
  ·rw [if_neg h1] at h ⊢
   by_cases h2:putFErr f 0 (t.re (liftG 0 l.length) 0)≠0
   ·grind
   ·rw [if_neg h2] at h ⊢
    have ht:=(err_zero (liftErr_zero (Classical.not_not.1 h1)).1).1
    rw[fillF_sim n l (k+1) _ (by omega) (fput_shape (by omega) (lift_shape 0 ht (by omega)) hf) h]
    exact Fm.sim_put l hf ht
def NewK(h:Int)(vs:List (Int×Int))(m m':FMap):Prop:=∀k,k∈m'.map (·.1)↔k∈m.map (·.1)∨(0≤k∧k<h∧∃q∈vs,q.1-q.2=k)
theorem NewK.none{h:Int}{m:FMap}{vs:List (Int×Int)}(hv:∀q∈vs,¬(0≤q.1-q.2∧q.1-q.2<h)):NewK h vs m m:=fun k=>by
 grind
theorem NewK.app{h:Int}{m m' m'':FMap}{vs vs':List (Int×Int)}(h1:NewK h vs m m')(h2:NewK h vs' m' m''):NewK h (vs++vs') m m'':=fun k=>by
 rw[h2 k,h1 k]
 constructor
 ·rintro ((h3|⟨h3,h4,q,hq,h5⟩)|⟨h3,h4,q,hq,h5⟩)
  all_goals grind
 grind
theorem mT_keys(h:Int)(p:Tm):∀(b:Int) (t:Tm) (m m':FMap),p.shape=true→mT h b p t m=(true,m')→NewK h (p.vars b) m m':=by
 induction p using Tm.ind with
 |h p ih=>
  intro b t m m' hs he
  rw[mT_eq] at he
  by_cases hh:p.kind=1∧0≤p.index-b∧p.index-b<h
  ·rw [if_pos hh] at he
   rw[vars_var hs hh.1]
   by_cases hm:(p.index-b)∈m.map (·.1)
   ·rw [if_pos hm] at he
    cases he
    intro k
    grind
   ·rw [if_neg hm] at he
    simp only[Prod.mk.injEq] at he
    obtain⟨_,rfl⟩:=he
    intro k
    rw[List.map_append,List.mem_append]
    constructor
    ·rintro (h1|h1)
     all_goals simp_all
    grind
  ·rw [if_neg hh] at he
   by_cases h2:p.kind=t.kind∧p.ty=t.ty
   ·rw [if_pos h2] at he
    by_cases h1:p.kind=1
    ·rw [if_pos h1] at he
     simp only[Prod.mk.injEq] at he
     obtain⟨_,rfl⟩:=he
     rw[vars_var hs h1]
     refine NewK.none fun q hq hc=> ?_
     grind
    ·rw [if_neg h1] at he
     rw[vars_node h1]
     have key:∀(ps ts:List Tm) (m m':FMap),(∀x∈ps,x∈p.args)→mTs h (up p.kind b) ps ts m=(true,m')→NewK h (ps.flatMap (Tm.vars (up p.kind b))) m m':=by
      intro ps
      induction ps with
      |nil=>intro ts m m' _ he;simp only[mTs,Prod.mk.injEq] at he;obtain⟨_,rfl⟩:=he;exact NewK.none (by simp)
      |cons x ps ihp=>
       intro ts m m' hx he
       cases ts with
       |nil=>simp[mTs] at he
       |cons u ts=>
        simp only[mTs] at he
        generalize hr:mT h (up p.kind b) x u m=r at he
        obtain⟨b1,m1⟩:=r
        cases b1 with
        |false=>grind
        |true=>
         rw[List.flatMap_cons]
         exact(ih x (hx x (by simp)) _ u m m1 (shape_args hs x (hx x (by simp))) hr).app (ihp ts m1 m' (fun y hy=>hx y (by grind)) he)
     grind
   grind
theorem mTs_keys(h b:Int):∀(ps ts:List Tm) (m m':FMap),(∀x∈ps,x.shape=true)→mTs h b ps ts m=(true,m')→NewK h (ps.flatMap (Tm.vars b)) m m'
 |[],ts,m,m',_,he=>by simp only[mTs,Prod.mk.injEq] at he;obtain⟨_,rfl⟩:=he;exact NewK.none (by simp)
 |x::ps,[],m,m',_,he=>by simp[mTs] at he
 |x::ps,u::ts,m,m',hx,he=>by
  simp only[mTs] at he
  generalize hr:mT h b x u m=r at he
  obtain⟨b1,m1⟩:=r
  cases b1 with
  |false=>grind
  |true=>
   rw[List.flatMap_cons]
   exact(mT_keys h x b u m m1 (hx x (by simp)) hr).app (mTs_keys h b ps ts m1 m' (fun y hy=>hx y (by grind)) he)
def varsL(l:List (Tm×Int)):List (Int×Int):=l.flatMap fun q=>q.1.vars q.2
theorem varsL_map(b:Int)(ts:List Tm):varsL (ts.map fun t=>(t,b))=ts.flatMap (Tm.vars b):=by simp[varsL,List.flatMap_map]
theorem varsL_app(l l':List (Tm×Int)):varsL (l++l')=varsL l++varsL l':=by simp[varsL]
theorem mF_keys(h:Int)(p:Fm):∀(b:Int) (t:Fm) (m m':FMap),p.shape=true→mF h b p t m=(true,m')→NewK h (varsL (p.tms b)) m m':=by
 induction p using Fm.ind with
 |h p ih=>
  intro b t m m' hs he
  rw[mF_eq] at he
  split at he
  ·rw [Fm.tms_eq,varsL_app,varsL_map]
   generalize hr:mTs h b p.terms t.terms m=r at he
   obtain⟨b1,m1⟩:=r
   cases b1 with
   |false=>grind
   |true=>
    refine(mTs_keys h b _ _ m m1 (fun x hx=>fshape_terms hs hx) hr).app ?_
    have key:∀(ps ts:List Fm) (m m':FMap),(∀x∈ps,x∈p.args)→mFs h (upF p.kind b) ps ts m=(true,m')→NewK h (varsL (ps.flatMap (Fm.tms (upF p.kind b)))) m m':=by
     intro ps
     induction ps with
     |nil=>intro ts m m' _ he;simp only[mFs,Prod.mk.injEq] at he;obtain⟨_,rfl⟩:=he;exact NewK.none (by simp[varsL])
     |cons x ps ihp=>
      intro ts m m' hx he
      cases ts with
      |nil=>simp[mFs] at he
      |cons u ts=>
       simp only[mFs] at he
       generalize hr:mF h (upF p.kind b) x u m=r at he
       obtain⟨b1,m1⟩:=r
       cases b1 with
       |false=>grind
       |true=>
        rw[List.flatMap_cons,varsL_app]
        exact(ih x (hx x (by simp)) _ u m m1 (fshape_args hs (hx x (by simp))) hr).app (ihp ts m1 m' (fun y hy=>hx y (by grind)) he)
    grind
  grind
theorem cntF_pos(k:Int):∀l:List (Tm×Int),cntF k l≠0↔∃q∈varsL l,q.1-q.2=k
 |[]=>by simp[cntF,varsL]
 |p::l=>by
  have ih:=cntF_pos k l
  have h0:cnt (k+p.2) (p.1.vars 0)=cnt k (p.1.vars p.2):=(cnt_shift k p.2 p.1).symm
  have h1:cnt k (p.1.vars p.2)≠0↔∃q∈p.1.vars p.2,q.1-q.2=k:=by
   constructor
   ·intro h
    have:0<((p.1.vars p.2).filter fun q=>q.1-q.2==k).length:=Nat.pos_of_ne_zero h
    simp_all
   ·rintro ⟨q,hq,he⟩ h
    exact cnt_zero h q hq he
  simp only[cntF,h0]
  have e:varsL (p::l)=p.1.vars p.2++varsL l:=rfl
  rw[e]
  constructor
  ·intro h
   by_cases h2:cnt k (p.1.vars p.2)=0
   ·obtain ⟨q,hq,h3⟩:=ih.1 (by omega)
    grind
   ·obtain ⟨q,hq,h3⟩:=h1.1 h2
    grind
  grind
def GoodM(l:List Tm)(m:FMap):Prop:=(m.map (·.1)).Nodup∧∀q∈m,0≤q.1∧q.1<l.length∧q.2=l.getD q.1.toNat noTm
theorem mT_sim(l:List Tm)(hl:∀s∈l,s.shape=true)(p:Tm):∀(b:Int) (m:FMap),0≤b→p.shape=true→GoodM l m→∃m',mT l.length b p (simT l b p) m=(true,m')∧GoodM l m':=by
 induction p using Tm.ind with
 |h p ih=>
  intro b m hb hs hm
  rw[mT_eq]
  by_cases hh:p.kind=1∧0≤p.index-b∧p.index-b<l.length
  ·rw [if_pos hh]
   by_cases hk:(p.index-b)∈m.map (·.1)
   ·grind
   ·rw [if_neg hk]
    have hlt:(p.index-b).toNat<l.length:=by omega
    have hin:l.getD (p.index-b).toNat noTm∈l:=by
     grind
    have e:simT l b p=(l.getD (p.index-b).toNat noTm).re (liftG 0 b.toNat) 0:=by
     simp only[simT]
     rw[re_var hh.1]
     simp only[simG]
     grind
    rw[e,low_lift (hl _ hin)]
    refine⟨_,rfl,?_,?_⟩
    ·rw [List.map_append,List.nodup_append]
     refine⟨hm.1,by simp,?_⟩
     grind
    ·intro q hq
     rcases List.mem_append.1 hq with hq|hq
     ·exact hm.2 q hq
     grind
  ·rw [if_neg hh]
   by_cases h1:p.kind=1
   ·have e:simT l b p=vT (if b≤p.index then p.index-l.length else p.index):=by
     simp only[simT]
     rw[re_var h1]
     simp only[simG]
     grind
    have e2:=var_vT hs h1
    rw[e,if_pos ⟨by rw[h1];rfl,by rw[e2];rfl⟩,if_pos h1]
    exact⟨m,by simp[vT],hm⟩
   ·have e:simT l b p= .mk p.kind p.index p.ty (p.args.map (simT l (up p.kind b))):=by simp only[simT];rw[re_node h1];rfl
    rw[e,if_pos ⟨rfl,rfl⟩,if_neg h1,Tm.args_mk]
    have hb':0≤up p.kind b:=by simp only[up];omega
    have key:∀(ps:List Tm) (m:FMap),(∀x∈ps,x∈p.args)→GoodM l m→∃m',mTs l.length (up p.kind b) ps (ps.map (simT l (up p.kind b))) m=(true,m')∧GoodM l m':=by
     intro ps
     induction ps with
     |nil=>intro m _ hm;exact⟨m,rfl,hm⟩
     |cons x ps ihp=>
      intro m hx hm
      obtain⟨m1,h3,h4⟩:=ih x (hx x (by simp)) _ m hb' (shape_args hs x (hx x (by simp))) hm
      obtain⟨m2,h5,h6⟩:=ihp m1 (fun y hy=>hx y (by grind)) h4
      refine⟨m2,?_,h6⟩
      simp only[List.map_cons,mTs,h3,h5]
    simp_all
theorem mTs_sim(l:List Tm)(hl:∀s∈l,s.shape=true)(b:Int)(hb:0≤b):∀(ps:List Tm) (m:FMap),(∀x∈ps,x.shape=true)→GoodM l m→∃m',mTs l.length b ps (ps.map (simT l b)) m=(true,m')∧GoodM l m'
 |[],m,_,hm=>⟨m,rfl,hm⟩
 |x::ps,m,hx,hm=>by
  obtain⟨m1,h3,h4⟩:=mT_sim l hl x b m hb (hx x (by simp)) hm
  obtain⟨m2,h5,h6⟩:=mTs_sim l hl b hb ps m1 (fun y hy=>hx y (by grind)) h4
  exact⟨m2,by simp only[List.map_cons,mTs,h3,h5],h6⟩
theorem mF_sim(l:List Tm)(hl:∀s∈l,s.shape=true)(p:Fm):∀(b:Int) (m:FMap),0≤b→p.shape=true→GoodM l m→∃m',mF l.length b p (p.sim l b) m=(true,m')∧GoodM l m':=by
 induction p using Fm.ind with
 |h p ih=>
  intro b m hb hs hm
  have e:p.sim l b= .mk p.kind p.ty (p.terms.map (simT l b)) (p.args.map (Fm.sim l (upF p.kind b))):=by simp only[Fm.sim];rw[Fm.re_eq];rfl
  rw[mF_eq,e,if_pos ⟨rfl,rfl⟩,Fm.terms_mk,Fm.args_mk]
  obtain⟨m1,h1,h2⟩:=mTs_sim l hl b hb p.terms m (fun x hx=>fshape_terms hs hx) hm
  rw[h1]
  simp only
  have:=upF_le p.kind b
  have key:∀(ps:List Fm) (m:FMap),(∀x∈ps,x∈p.args)→GoodM l m→∃m',mFs l.length (upF p.kind b) ps (ps.map (Fm.sim l (upF p.kind b))) m=(true,m')∧GoodM l m':=by
   intro ps
   induction ps with
   |nil=>intro m _ hm;exact⟨m,rfl,hm⟩
   |cons x ps ihp=>
    intro m hx hm
    obtain⟨m1,h3,h4⟩:=ih x (hx x (by simp)) (upF p.kind b) m (by omega) (fshape_args hs (hx x (by simp))) hm
    obtain⟨m2,h5,h6⟩:=ihp m1 (fun y hy=>hx y (by simp[hy])) h4
    exact⟨m2,by simp only[List.map_cons,mFs,h3,h5],h6⟩
  exact key p.args m1 (fun _ h=>h) h2
theorem GoodM.look{l:List Tm}:∀{m:FMap},GoodM l m→∀k:Int,k∈m.map (·.1)→lookT m k=some (l.getD k.toNat noTm)
 |[],_,k,h=>by cases h
 |p::m,hm,k,h=>by
  simp only[lookT]
  by_cases hp:p.1=k
  ·rw [if_pos hp,(hm.2 p (by simp)).2.2,hp]
  ·rw [if_neg hp]
   have h1:=hm.1
   rw[List.map_cons,List.nodup_cons] at h1
   refine GoodM.look ⟨h1.2,fun q hq=>hm.2 q (by simp[hq])⟩ k ?_
   rw[List.map_cons,List.mem_cons] at h
   rcases h with h|h
   ·exact absurd h.symm hp
   ·exact h
theorem look_none:∀{m:FMap} {k:Int},k∉m.map (·.1)→lookT m k=none
 |[],k,_=>rfl
 |p::m,k,h=>by
  rw[List.map_cons,List.mem_cons,not_or] at h
  simp only[lookT]
  rw[if_neg fun e=>h.1 e.symm]
  exact look_none h.2
theorem nodup_len(n:Nat):∀(l:List Int),l.Nodup→(∀k∈l,0≤k∧k<n)→l.length≤n∧((∀k:Nat,k<n→(k:Int)∈l)↔l.length=n):=by
 induction n with
 |zero=>
  intro l _ h
  cases l with
  |nil=>simp
  |cons x l=>have:=h x (by simp);omega
 |succ n ih=>
  intro l hn h
  have h1:(l.filter (·≠(n:Int))).Nodup:=hn.filter _
  have h2:=ih _ h1 fun k hk=>by
   rw[List.mem_filter] at hk
   have:=h k hk.1
   have h3:k≠(n:Int):=by simpa using hk.2
   omega
  have hcount:l.length=(l.filter (·≠(n:Int))).length+(if(n:Int)∈l then 1 else 0):=by
   clear h2 h1 ih h
   induction l with
   |nil=>simp
   |cons x l ihl=>
    rw[List.nodup_cons] at hn
    have:=ihl hn.2
    by_cases hx:x=(n:Int)
    ·subst hx
     rw[if_neg hn.1] at this
     simp at this ⊢;omega
    ·have e:((n:Int)∈x::l)↔(n:Int)∈l:=by simp[Ne.symm hx]
     simp only[e,List.length_cons,List.filter_cons,ne_eq,hx,not_false_eq_true,decide_true,if_true]
     simp only[ne_eq] at this
     omega
  by_cases hmem:(n:Int)∈l
  ·rw [if_pos hmem] at hcount
   refine⟨by omega,?_⟩
   constructor
   ·intro h3
    have:=h2.2.1 fun k hk=>List.mem_filter.2 ⟨h3 k (by omega),by simp;omega⟩
    omega
   ·intro h3 k hk
    by_cases hkn:k=n
    ·subst hkn;exact hmem
    ·exact (List.mem_filter.1 (h2.2.2 (by omega) k (by omega))).1
  ·rw [if_neg hmem] at hcount
   refine⟨by omega,?_⟩
   constructor
   ·intro h3;exact absurd (h3 n (by omega)) hmem
   ·intro h3;omega
theorem cnt_flat{f:Int×Int→List (Int×Int)}{a a':Int}(l:List (Int×Int))(h:∀p∈l,cnt a (f p)=cnt a' [p]):cnt a (l.flatMap f)=cnt a' l:=by
 induction l with
 |nil=>rfl
 |cons p l ih=>
  rw[List.flatMap_cons,cnt_append,h p (by simp),ih fun q hq=>h q (by grind),show p::l=[p]++l from rfl,cnt_append]
theorem cnt_put{t s:Tm}{m j b:Int}(ht:t.shape=true)(hs:s.shape=true)(hb:0≤b)(hj:0≤j)(hm:j<m):
 cnt (j+b) ((t.re (putG (0+b) (s.re (liftG 0 m) 0)) 0).vars 0)=cnt (j+1+b) (t.vars 0):=by
 rw[vars_re _ _ _ ht]
 refine cnt_flat _ fun p hp=> ?_
 have h1:=vars_snd t 0 p hp
 obtain⟨i,c⟩:=p
 simp only at h1 ⊢
 rw[putG_eq,Int.zero_add,cnt_one]
 by_cases h3:i-c=b
 ·rw [if_pos h3,lift_lift _ _ _ (by omega),cnt_shift,cnt_lift_no hs _ _ (by omega) (by omega),if_neg (by omega)]
 ·rw [if_neg h3,vars_vT,cnt_one]
  grind
theorem tms_re(G:Int→Tm→Tm)(f:Fm):∀b,(f.re G b).tms b=(f.tms b).map fun p=>(G p.2 p.1,p.2):=by
 induction f using Fm.ind with
 |h f ih=>
  intro b
  rw[Fm.re_eq,Fm.tms_eq,Fm.tms_eq]
  simp only[Fm.kind_mk,Fm.terms_mk,Fm.args_mk,List.map_append,List.map_map,List.map_flatMap,List.flatMap_map]
  congr 1
  have:∀l:List Fm,(∀x∈l,x∈f.args)→l.flatMap (fun x=>(x.re G (upF f.kind b)).tms (upF f.kind b))=l.flatMap fun x=>(x.tms (upF f.kind b)).map fun p=>(G p.2 p.1,p.2):=by
   intro l
   induction l<;>simp_all
  grind
theorem cntF_mapG{G:Int→Tm→Tm}{j j':Int}:∀l:List (Tm×Int),(∀p∈l,cnt (j+p.2) ((G p.2 p.1).vars 0)=cnt (j'+p.2) (p.1.vars 0))→cntF j (l.map fun p=>(G p.2 p.1,p.2))=cntF j' l
 |[],_=>rfl
 |p::l,h=>by
  simp only[List.map_cons,cntF]
  rw[cntF_mapG l fun q hq=>h q (by grind),h p (by simp)]
theorem cntF_put{f:Fm}{s:Tm}{m j:Int}(hf:f.shape=true)(hs:s.shape=true)(hj:0≤j)(hm:j<m):cntF j ((f.put 0 (s.re (liftG 0 m) 0)).tms 0)=cntF (j+1) (f.tms 0):=by
 rw[Fm.put,tms_re]
 exact cntF_mapG (G:=fun b t=>t.re (putG (0+b) (s.re (liftG 0 m) 0)) 0) _ fun p hp=>cnt_put (tms_shape f hf 0 p hp) hs (tms_snd p hp) hj hm
theorem cntF_zero{k:Int}{l:List (Tm×Int)}(h:cntF k l=0):∀p∈l,cnt (k+p.2) (p.1.vars 0)=0:=by
 induction l with
 |nil=>simp
 |cons q l ih=>
  simp only[cntF] at h
  grind
theorem fput_any{f:Fm}{at_:Int}(s s':Tm)(h:cntF at_ (f.tms 0)=0):f.put at_ s=f.put at_ s':=
 Fm.re_congr f 0 fun p hp=>put_any s s' (cntF_zero h p hp)
theorem fput_size(at_:Int)(s:Tm)(hs:s.shape=true)(f:Fm):f.shape=true→∀b,(f.re (fun b t=>t.re (putG (at_+b) s) 0) b).size=f.size+cntF at_ (f.tms b)*(s.size-1):=by
 induction f using Fm.ind with
 |h f ih=>
  intro hf b
  have e3:(f.re (fun b t=>t.re (putG (at_+b) s) 0) b).size=1+((f.terms.map fun t=>t.re (putG (at_+b) s) 0).map Tm.size).sum+((f.args.map (Fm.re (fun b t=>t.re (putG (at_+b) s) 0) (upF f.kind b))).map Fm.size).sum:=by
   rw[Fm.re_eq,Fm.size_eq];rfl
  rw[e3,f.size_eq,Fm.tms_eq,cntF_append,Nat.add_mul,List.map_map,List.map_map]
  have h1:∀l:List Tm,(∀x∈l,x∈f.terms)→(l.map (Tm.size∘fun t=>t.re (putG (at_+b) s) 0)).sum=(l.map Tm.size).sum+cntF at_ (l.map fun t=>(t,b))*(s.size-1):=by
   intro l
   induction l with
   |nil=>intro _;simp[cntF]
   |cons x l ihl=>
    intro hl
    have h2:=put_size (at_+b) s x hs 0 (fshape_terms hf (hl x (by simp)))
    have h3:=ihl fun y hy=>hl y (by grind)
    simp only[List.map_cons,List.sum_cons,Function.comp_apply,cntF,Nat.add_mul]
    omega
  have h2:∀l:List Fm,(∀x∈l,x∈f.args)→(l.map (Fm.size∘Fm.re (fun b t=>t.re (putG (at_+b) s) 0) (upF f.kind b))).sum=(l.map Fm.size).sum+cntF at_ (l.flatMap (Fm.tms (upF f.kind b)))*(s.size-1):=by
   intro l
   induction l with
   |nil=>intro _;simp[cntF]
   |cons x l ihl=>
    intro hl
    have h2:=ih x (hl x (by simp)) (fshape_args hf (hl x (by simp))) (upF f.kind b)
    have h3:=ihl fun y hy=>hl y (by grind)
    simp only[List.map_cons,List.sum_cons,Function.comp_apply,List.flatMap_cons,cntF_append,Nat.add_mul]
    omega
  grind
theorem putF_err{f:Fm}{at_:Int}{s:Tm}(ha:0≤at_)(h:putFErr f at_ s=0):(f.put at_ s).err=0:=by
 obtain⟨h1,h2,_,_,h5⟩:=putFErr_zero h
 have hf:=(Fm.err_iff f).1 h1
 have hs:=(err_zero h2).1
 refine(Fm.err_iff _).2 ⟨fput_shape ha hs hf.1,?_⟩
 have h6:=fput_size at_ s hs f hf.1 0
 have hsp:=s.size_pos
 show(f.re _ 0).size≤4096
 grind
theorem fillF_err(n:Int):∀(l:List Tm) (k:Int) (f:Fm),f.err=0→(fillF n l k f).2=0→(fillF n l k f).1.err=0
 |[],k,f,hf,_=>hf
 |t::l,k,f,hf,h=>by
  simp only[fillF] at h ⊢
  split at h
  ·omega
  ·rename_i h1
   rw[if_neg h1]
   split at h
   ·omega
   ·rename_i h2
    rw[if_neg h2]
    exact fillF_err n l (k+1) _ (putF_err (by omega) (Classical.not_not.1 h2)) h
def fine(s:Tm):Prop:=s.err=0∧∀q∈s.vars 0,q.1≤1000000
theorem fine_near{s:Tm}(h:fine s):s.near=true:=List.all_eq_true.2 fun q hq=>by have:=h.2 q hq;grind
theorem fine_lift{s:Tm}(h:fine s)(m:Nat)(hm:m≤4096):liftErr s 0 m=0∧(s.re (liftG 0 m) 0).err=0∧(s.re (liftG 0 m) 0).near=true:=by
 obtain⟨hsh,hsz⟩:=err_zero h.1
 refine⟨?_,?_,?_⟩
 ·simp only[liftErr]
  rw[if_neg (by rw[h.1];decide),if_neg]
  rintro(h1|h1|h1)
  ·omega
  ·omega
  ·rw [fine_near h] at h1;cases h1
 ·exact (Tm.err_iff _).2 ⟨lift_shape 0 hsh (by omega),by rw[lift_size _ _ _ _ hsh];omega⟩
 ·refine List.all_eq_true.2 fun q hq=> ?_
  rw[lift_vars _ _ _ _ hsh] at hq
  obtain⟨p,hp,rfl⟩:=List.mem_map.1 hq
  have:=h.2 p hp
  grind
theorem putFErr_any{f:Fm}{s s':Tm}(hc:cntF 0 (f.tms 0)=0)(h1:s.err=0)(h2:s.near=true)(h1':s'.err=0)(h2':s'.near=true):putFErr f 0 s=putFErr f 0 s':=by
 simp only[putFErr,h1,h1',h2,h2',hc]
 simp
theorem fillF_indep(n:Int):∀(l l':List Tm) (k:Int) (f:Fm),l.length=l'.length→l.length≤4096→n=k+l.length→f.shape=true→
 (∀(j:Nat) (hj:j<l.length) (hj':j<l'.length),l[j]=l'[j]∨(cntF j (f.tms 0)=0∧fine l[j]∧fine l'[j]))→fillF n l k f=fillF n l' k f
 |[],[],k,f,_,_,_,_,_=>rfl
 |[],_::_,k,f,h,_,_,_,_=>by grind
 |_::_,[],k,f,h,_,_,_,_=>by grind
 |t::l,t'::l',k,f,hl,h4,hn,hf,h=>by
  simp only[List.length_cons,Nat.add_right_cancel_iff] at hl hn h4
  have e:n-1-k=l.length:=by omega
  simp only[fillF,e]
  have h0:=h 0 (by simp) (by simp)
  simp only[List.getElem_cons_zero] at h0
  have hstep:∀s:Tm,s.shape=true→fillF n l (k+1) (f.put 0 (s.re (liftG 0 l.length) 0))=fillF n l' (k+1) (f.put 0 (s.re (liftG 0 l.length) 0)):=fun s hs=>by
   refine fillF_indep n l l' (k+1) _ hl (by omega) (by omega) (fput_shape (by omega) (lift_shape 0 hs (by omega)) hf) fun j hj hj'=> ?_
   have h1:=h (j+1) (by grind) (by grind)
   simp only[List.getElem_cons_succ] at h1
   rcases h1 with h1|⟨h1,h2⟩
   ·grind
   ·refine .inr ⟨?_,h2⟩
    rw[cntF_put hf hs (by omega) (by omega)]
    exact h1
  by_cases he:t=t'
  ·subst he
   by_cases h1:liftErr t 0 l.length≠0
   ·grind
   ·rw [if_neg h1,if_neg h1]
    by_cases h2:putFErr f 0 (t.re (liftG 0 l.length) 0)≠0
    ·grind
    ·rw [if_neg h2,if_neg h2]
     exact hstep t (err_zero (liftErr_zero (Classical.not_not.1 h1)).1).1
  ·rcases h0 with h0|⟨h0,h1,h2⟩
   ·grind
   ·have a:=fine_lift h1 l.length (by omega)
    have b:=fine_lift h2 l.length (by omega)
    rw[if_neg (show ¬liftErr t 0 l.length≠0 by omega),if_neg (show ¬liftErr t' 0 l.length≠0 by omega),putFErr_any h0 a.2.1 a.2.2 b.2.1 b.2.2]
    by_cases h3:putFErr f 0 (t'.re (liftG 0 l.length) 0)≠0
    ·grind
    ·rw [if_neg h3,if_neg h3,fput_any (at_:=0) (t.re (liftG 0 l.length) 0) (t'.re (liftG 0 l.length) 0) h0]
     exact hstep t' (err_zero h2.1).1
mutual
def Fm.okT(g:List Ty):Fm→Prop
 | .mk k h ts as=>(∀t∈ts,t.inf g=(natT,0))∧Fm.okTs (if quantK k=true then g++[h] else g) as
def Fm.okTs(g:List Ty):List Fm→Prop
 |[]=>True
 |f::l=>f.okT g∧Fm.okTs g l
end
def ctxF(g:List Ty)(f:Fm):List Ty:=if quantK f.kind=true then g++[f.ty] else g
theorem Fm.okTs_iff(g:List Ty):∀l:List Fm,Fm.okTs g l↔∀x∈l,x.okT g
 |[]=>by simp[Fm.okTs]
 |f::l=>by simp only[Fm.okTs,Fm.okTs_iff g l,List.mem_cons,forall_eq_or_imp]
theorem Fm.okT_iff(g:List Ty)(f:Fm):f.okT g↔(∀t∈f.terms,t.inf g=(natT,0))∧∀x∈f.args,x.okT (ctxF g f):=by
 cases f;simp only[Fm.okT,Fm.okTs_iff,ctxF];rfl
theorem ctxF_q{g:List Ty}{f:Fm}(h:quantK f.kind=true):ctxF g f=g++[f.ty]:=if_pos h
theorem ctxF_n{g:List Ty}{f:Fm}(h:¬quantK f.kind=true):ctxF g f=g:=if_neg h
theorem quantK_iff{k:Int}:quantK k=true↔4≤k∧k≤7:=by simp[quantK]
theorem fokT_two{k:Int}{a b:Fm}{g:List Ty}(hk:k=2∨k=3)(ha:a.okT g)(hb:b.okT g):(twoF k a b).okT g:=by
 rw[Fm.okT_iff]
 have e:ctxF g (twoF k a b)=g:=ctxF_n (by show ¬quantK k=true;rw[quantK_iff];omega)
 rw[e]
 refine And.intro (fun t ht=>by cases ht) (fun x hx=> ?_)
 simp only[twoF,Fm.args_mk,List.mem_cons,List.not_mem_nil,or_false] at hx
 grind
theorem fokT_qu{k:Int}{s:Ty}{a:Fm}{g:List Ty}(hk:4≤k∧k≤7)(ha:a.okT (g++[s])):(quF k s a).okT g:=by
 rw[Fm.okT_iff]
 have e:ctxF g (quF k s a)=g++[s]:=ctxF_q (quantK_iff.2 hk)
 rw[e]
 refine And.intro (fun t ht=>by cases ht) (fun x hx=> ?_)
 simp only[quF,Fm.args_mk,List.mem_cons,List.not_mem_nil,or_false] at hx
 grind
theorem fokT_put(at_:Int)(s:Tm)(g:List Ty)(σ:Ty)(hs:s.shape=true)(hσ:s.inf g=(σ,0))(f:Fm):∀(h:List Ty) (b:Int),(h.length:Int)=at_+b→f.shape=true→f.okT (g++[σ]++h)→
 (f.re (fun b t=>t.re (putG (at_+b) s) 0) b).okT (g++h):=by
 induction f using Fm.ind with
 |h f ih=>
  intro h b hb hf hok
  rw[Fm.okT_iff] at hok
  rw[Fm.re_eq,Fm.okT_iff]
  simp only[Fm.terms_mk,Fm.args_mk]
  refine⟨fun y hy=> ?_,fun y hy=> ?_⟩
  ·obtain ⟨x,hx,rfl⟩:=List.mem_map.1 hy
   rw[put_inf x s g h σ (at_+b) 0 (fshape_terms hf hx) hs (by omega) hσ]
   grind
  ·obtain ⟨x,hx,rfl⟩:=List.mem_map.1 hy
   have h1:=hok.2 x hx
   by_cases hq:quantK f.kind=true
   ·rw [ctxF_q hq] at h1
    rw[show ∀ts as,ctxF (g++h) (Fm.mk f.kind f.ty ts as)=g++h++[f.ty] from fun ts as=>ctxF_q (f:=Fm.mk f.kind f.ty ts as) hq]
    have e:upF f.kind b=b+1:=if_pos hq
    rw[e,List.append_assoc]
    rw[List.append_assoc] at h1
    exact ih x hx (h++[f.ty]) (b+1) (by grind) (fshape_args hf hx) h1
   ·rw [ctxF_n hq] at h1
    rw[show ∀ts as,ctxF (g++h) (Fm.mk f.kind f.ty ts as)=g++h from fun ts as=>ctxF_n (f:=Fm.mk f.kind f.ty ts as) hq]
    have e:upF f.kind b=b:=if_neg hq
    rw[e]
    exact ih x hx h b hb (fshape_args hf hx) h1
theorem fokT_vars{f:Fm}:∀{g:List Ty} {b:Int},f.okT g→f.shape=true→∀q∈f.tms b,∀v∈q.1.vars 0,v.1<g.length+f.size:=by
 induction f using Fm.ind with
 |h f ih=>
  intro g b hok hf q hq v hv
  have e:=f.size_eq
  rw[Fm.okT_iff] at hok
  rw[Fm.tms_eq,List.mem_append] at hq
  rcases hq with hq|hq
  ·obtain ⟨t,ht,rfl⟩:=List.mem_map.1 hq
   have h1:=lsum_mem Tm.size ht
   have h2:=hok.1 t ht
   exact vars_bound t g 0 _ (by rw[h2]) (fshape_terms hf ht) (by omega) v hv
  ·obtain ⟨x,hx,hq⟩:=List.mem_flatMap.1 hq
   have h1:=lsum_mem Fm.size hx
   have h2:=ih x hx (hok.2 x hx) (fshape_args hf hx) q hq v hv
   have h3:(ctxF g f).length≤g.length+1:=by simp only[ctxF];grind
   omega
theorem fokT_near{f:Fm}{g:List Ty}(h:f.okT g)(he:f.err=0)(hg:g.length≤1000):f.near=true∧f.nearE=true:=by
 have h1:=(Fm.err_iff f).1 he
 refine⟨List.all_eq_true.2 fun q hq=>List.all_eq_true.2 fun v hv=> ?_,List.all_eq_true.2 fun q hq=>List.all_eq_true.2 fun v hv=> ?_⟩
 ·have:=fokT_vars h h1.1 q hq v hv;grind
 ·have:=fokT_vars h h1.1 q hq v hv;grind
theorem mk_fine{n:Nat}{g:List Ty}{t:Ty}{x:Tm}(h:Mk n g t x)(hg:smalls g)(ht:t.small)(hn:n≤5)(hl:g.length≤1000):fine x:=by
 have h1:=h.err hg ht hn
 have h2:=err_zero h1
 refine⟨h1,fun q hq=> ?_⟩
 have:=vars_bound x g 0 (g.length+x.size) (by rw[h.inf hg ht]) h2.1 (by omega) q hq
 omega
theorem fillF_made{g:List Ty}(hg:smalls g)(hgl:g.length≤100)(n:Int):∀(L:List (Tm×Ty)) (k:Int) (f:Fm),n=k+L.length→L.length≤100→(∀q∈L,Mk 4 g q.2 q.1∧q.2.small)→f.err=0→f.okT (g++(L.map (·.2)).reverse)→
 ((fillF n (L.map (·.1)) k f).2=0∨(fillF n (L.map (·.1)) k f).2=4)∧((fillF n (L.map (·.1)) k f).2=0→(fillF n (L.map (·.1)) k f).1.okT g)
 |[],k,f,_,_,_,hf,hok=>by simp only[List.map_nil,List.reverse_nil,List.append_nil] at hok;exact⟨.inl rfl,fun _=>hok⟩
 |q::L,k,f,hn,hl,hq,hf,hok=>by
  obtain⟨t,τ⟩:=q
  simp only[List.length_cons] at hn hl
  have e:n-1-k=L.length:=by omega
  obtain⟨hmk,hsm⟩:=hq (t,τ) (by simp)
  simp only at hmk hsm
  have hfi:=mk_fine hmk hg hsm (by omega) (by omega)
  have hli:=fine_lift hfi L.length (by omega)
  have hshp:=(err_zero hfi.1).1
  have hshl:(t.re (liftG 0 L.length) 0).shape=true:=lift_shape 0 hshp (by omega)
  have hnr:=fokT_near hok hf (by grind)
  have hfz:=(Fm.err_iff f).1 hf
  simp only[List.map_cons,List.reverse_cons,←List.append_assoc] at hok
  simp only[List.map_cons,fillF,e]
  rw[if_neg (by omega)]
  have hpe:putFErr f 0 (t.re (liftG 0 L.length) 0)=0∨putFErr f 0 (t.re (liftG 0 L.length) 0)=4:=by
   simp only[putFErr,hf,hli.2.1,hli.2.2,hnr.1]
   grind
  by_cases h4:putFErr f 0 (t.re (liftG 0 L.length) 0)≠0
  ·grind
  ·rw [if_neg h4]
   have hin:(t.re (liftG 0 L.length) 0).inf (g++(L.map (·.2)).reverse)=(τ,0):=by
    have h5:=lift_inf t g (L.map (·.2)).reverse [] 0 0 hshp rfl
    simp only[List.append_nil,List.length_reverse,List.length_map] at h5
    rw[h5];exact hmk.inf hg hsm
   refine fillF_made hg hgl n L (k+1) _ (by omega) (by omega) (fun q hq'=>hq q (by grind)) (putF_err (by omega) (Classical.not_not.1 h4)) ?_
   have h6:=fokT_put 0 (t.re (liftG 0 L.length) 0) (g++(L.map (·.2)).reverse) τ hshl hin f [] 0 rfl hfz.1 (by grind)
   rw[List.append_nil] at h6
   exact h6
theorem match_back{p:Fm}{l:List Tm}(hp:p.err=0)(he:(fill p l).2=0)(hl:∀s∈l,fine s)(hn:p.nearE=true)(hn2:(fill p l).1.nearE=true)(h16:l.length≤16):
 matchF p l.length (fill p l).1=if ∀k:Nat,k<l.length→cntF k (p.tms 0)≠0 then(l,0) else([],13):=by
 have hps:=((Fm.err_iff p).1 hp).1
 have e0:fill p l=fillF l.length l 0 p:=by simp only[fill];grind
 have hfe:(fill p l).1.err=0:=by rw[e0] at he ⊢;exact fillF_err _ l 0 p hp he
 have hsim:(fill p l).1=p.sim l 0:=by rw[e0] at he ⊢;exact fillF_sim _ l 0 p (by omega) hps he
 obtain⟨m',h1,h2⟩:=mF_sim l (fun s hs=>(err_zero (hl s hs).1).1) p 0 [] (by omega) hps ⟨by simp,by simp⟩
 rw[←hsim] at h1
 have h3:=mF_keys _ p 0 _ _ _ hps h1
 have h4:∀k:Nat,k<l.length→((k:Int)∈m'.map (·.1)↔cntF k (p.tms 0)≠0):=fun k hk=>by
  rw[h3 k,cntF_pos]
  grind
 have h5:=nodup_len l.length (m'.map (·.1)) h2.1 fun k hk=>by
  obtain⟨q,hq,rfl⟩:=List.mem_map.1 hk
  have:=h2.2 q hq;omega
 have h6:(outs m' l.length).length=l.length:=by simp[outs]
 have h7:∀(j:Nat) (hj:j<l.length),(outs m' l.length)[j]'(by omega)=if cntF j (p.tms 0)≠0 then l[j] else zeroT:=fun j hj=>by
  simp only[outs,List.getElem_map,List.getElem_range]
  by_cases hc:cntF j (p.tms 0)≠0
  ·rw [if_pos hc,h2.look _ ((h4 j hj).2 hc)]
   grind
  ·rw [if_neg hc,look_none fun hm=>hc ((h4 j hj).1 hm)];rfl
 have hfz:fine zeroT:=⟨by decide,by simp[zeroT,Tm.vars,Tm.varss]⟩
 have h8:fill p (outs m' l.length)=fill p l:=by
  have e1:fill p (outs m' l.length)=fillF l.length (outs m' l.length) 0 p:=by simp only[fill];grind
  rw[e1,e0]
  refine fillF_indep _ _ _ 0 p h6 (by omega) (by omega) hps fun j hj hj'=> ?_
  grind
 have hnat:((l.length:Int)).toNat=l.length:=by omega
 simp only[matchF]
 have hneg:¬(¬(0≤(l.length:Int)∧(l.length:Int)≤16)∨p.nearE=false∨(fill p l).1.nearE=false):=by
  grind
 rw[if_neg (by omega),if_neg (by omega),if_neg hneg,h1]
 simp only[hnat,h8,he]
 rw[if_neg (by simp),if_neg (by simp)]
 have hlen:(m'.map (·.1)).length=m'.length:=List.length_map ..
 by_cases hall:∀k:Nat,k<l.length→cntF k (p.tms 0)≠0
 ·rw [if_pos hall]
  have h9:=h5.2.1 fun k hk=>(h4 k hk).2 (hall k hk)
  rw[if_neg (by omega)]
  congr 1
  apply List.ext_getElem h6
  grind
 grind
theorem sum_zero{α:Type}{f:α→Nat}{l:List α}(h:∀j (hj:j<l.length),f l[j]=0):(l.map f).sum=0:=by
 induction l with
 |nil=>rfl
 |cons x l ih=>
  have h0:=h 0 (by simp)
  have h1:=ih fun j hj=>by have:=h (j+1) (by grind);grind
  grind
theorem sum_pos{α:Type}{f:α→Nat}{l:List α}{m:Nat}(hm:m<l.length)(h:f l[m]≠0):(l.map f).sum≠0:=by
 have:=lsum_mem f (List.getElem_mem hm)
 omega
def leastT(most:Int)(t:Tm):Bool:=(t.vars 0).all fun p=>decide (p.1≤most)
theorem all_shift(most b:Int)(t:Tm):(t.vars b).all (fun p=>decide (p.1≤most))=leastT most t:=by
 have h:=vars_shift t 0 b
 rw[Int.zero_add] at h
 rw[h,List.all_map];rfl
theorem all_flat{α β:Type}(f:α→List β)(p:β→Bool)(l:List α):(l.flatMap f).all p=l.all fun x=>(f x).all p:=by
 simp
theorem leastT_eq{most:Int}(h0:0≤most){t:Tm}(hs:t.shape=true):leastT most t=(decide (t.index≤most)&&t.args.all (leastT most)):=by
 simp only[leastT]
 by_cases h1:t.kind=1
 ·rw [vars_var hs h1,var_args hs h1];simp
 ·rw [vars_node h1,all_flat,(shape_index hs).2 h1,decide_eq_true h0,Bool.true_and]
  congr 1
  funext x
  exact all_shift most _ x
theorem near_least(t:Tm):t.near=leastT 536870912 t:=rfl
def leastF(most:Int)(f:Fm):Bool:=(f.tms 0).all fun p=>leastT most p.1
theorem leastF_eq(most:Int)(f:Fm):leastF most f=(f.terms.all (leastT most)&&f.args.all (leastF most)):=by
 have key:∀(f:Fm) (b:Int),(f.tms b).all (fun p=>leastT most p.1)=leastF most f:=by
  intro f
  induction f using Fm.ind with
  |h f ih=>
   intro b
   have e:∀b,(f.tms b).all (fun p=>leastT most p.1)=(f.terms.all (leastT most)&&f.args.all (leastF most)):=fun b=>by
    rw[Fm.tms_eq,List.all_append,List.all_map,all_flat]
    grind
   rw[e b,←e 0];rfl
 have e:leastF most f=(f.tms 0).all fun p=>leastT most p.1:=rfl
 rw[e,Fm.tms_eq,List.all_append,List.all_map,all_flat]
 grind
theorem nearF_least(f:Fm):f.near=leastF 536870912 f:=rfl
theorem lift_up(k fr by_:Int)(x:Tm):x.re (liftG (up k fr) by_) 0=x.re (liftG fr by_) (up k 0):=by
 rw[re_shift0 (liftG fr by_) (up k 0) x]
 refine re_congr x 0 fun p _=> ?_
 simp only[liftG_eq]
 congr 1
 have:up k fr=fr+up k 0:=by have:=up_add k 0 fr;grind
 omega
theorem lift_node{fr by_:Int}{t:Tm}(h:t.kind≠1):t.re (liftG fr by_) 0= .mk t.kind t.index t.ty (t.args.map fun x=>x.re (liftG (up t.kind fr) by_) 0):=by
 rw[re_node h]
 congr 1
 exact List.map_congr_left fun x _=>(lift_up _ _ _ x).symm
def timesF(at_:Int)(f:Fm):Nat:=cntF at_ (f.tms 0)
theorem cntF_shift(at_:Int)(f:Fm):∀b c:Int,cntF at_ (f.tms (b+c))=cntF (at_+c) (f.tms b):=by
 induction f using Fm.ind with
 |h f ih=>
  intro b c
  rw[Fm.tms_eq,Fm.tms_eq,cntF_append,cntF_append]
  have e:upF f.kind (b+c)=upF f.kind b+c:=by simp only[upF];grind
  rw[e]
  congr 1
  ·generalize f.terms=l
   induction l with
   |nil=>rfl
   |cons x l ihl=>
    simp only[List.map_cons,cntF,ihl]
    grind
  ·have:∀l:List Fm,(∀x∈l,x∈f.args)→cntF at_ (l.flatMap (Fm.tms (upF f.kind b+c)))=cntF (at_+c) (l.flatMap (Fm.tms (upF f.kind b))):=by
    intro l
    induction l with
    |nil=>intro _;rfl
    |cons x l ihl=>intro h;rw[List.flatMap_cons,List.flatMap_cons,cntF_append,cntF_append,ih x (h x (by simp)),ihl fun y hy=>h y (by grind)]
   grind
theorem timesF_eq{at_:Int}{f:Fm}(hs:f.shape=true):timesF at_ f=(f.terms.map (timesT at_)).sum+(f.args.map (timesF (upF f.kind at_))).sum:=by
 unfold timesF
 rw[Fm.tms_eq,cntF_append]
 congr 1
 ·have:∀l:List Tm,(∀x∈l,x.shape=true)→cntF at_ (l.map fun t=>(t,(0:Int)))=(l.map (timesT at_)).sum:=by
   intro l
   induction l with
   |nil=>intro _;rfl
   |cons x l ih=>
    intro h
    have h1:=times_cnt x at_ 0 (h x (by simp))
    simp only[List.map_cons,List.sum_cons,cntF]
    grind
  exact this f.terms fun x hx=>fshape_terms hs hx
 ·have:∀l:List Fm,cntF at_ (l.flatMap (Fm.tms (upF f.kind 0)))=(l.map fun f'=>cntF (upF f.kind at_) (f'.tms 0)).sum:=by
   intro l
   induction l with
   |nil=>rfl
   |cons x l ih=>
    rw[List.flatMap_cons,cntF_append,ih,List.map_cons,List.sum_cons]
    congr 1
    have h1:=cntF_shift at_ x 0 (upF f.kind 0)
    rw[Int.zero_add] at h1
    rw[h1]
    congr 1
    simp only[upF];grind
  grind
theorem timesF_le(at_:Int)(f:Fm):timesF at_ f≤f.size:=by
 have h1:=cntF_le at_ (f.tms 0)
 have h2:=tms_size f 0
 unfold timesF;omega
theorem fput_eq(at_:Int)(s:Tm)(b:Int)(f:Fm):f.re (fun b t=>t.re (putG (at_+b) s) 0) b=f.re (fun b t=>t.re (putG at_ s) b) b:=by
 refine Fm.re_congr f b fun p _=> ?_
 rw[re_shift0 (putG at_ s) p.2]
 refine re_congr p.1 0 fun q _=> ?_
 simp only[putG_eq]
 grind
def firstI{α:Type}(f:α→Int):List α→Int
 |[]=>0
 |x::l=>if f x≠0 then f x else firstI f l
theorem firstI_at{α:Type}{f:α→Int}:∀{l:List α} {m:Nat} (hm:m<l.length),(∀j (hj:j<l.length),j<m→f l[j]=0)→f l[m]≠0→firstI f l=f l[m]
 |[],m,hm,_,_=>by grind
 |x::l,0,hm,_,h=>by simp only[firstI,List.getElem_cons_zero] at h ⊢;omega
 |x::l,m+1,hm,h0,h=>by
  have h1:=h0 0 (by simp) (by omega)
  simp only[List.getElem_cons_zero] at h1
  simp only[firstI,List.getElem_cons_succ] at h ⊢
  rw[if_neg (by omega)]
  exact firstI_at (by grind) (fun j hj hjm=>by grind) h
theorem firstI_none{α:Type}{f:α→Int}:∀{l:List α},(∀j (hj:j<l.length),j<l.length→f l[j]=0)→firstI f l=0
 |[],_=>rfl
 |x::l,h0=>by
  have h1:=h0 0 (by simp) (by simp)
  simp only[List.getElem_cons_zero] at h1
  simp only[firstI]
  rw[if_neg (by omega)]
  exact firstI_none fun j hj hjm=>by have:=h0 (j+1) (by grind) (by grind);grind
theorem firstI_all{α:Type}{f:α→Int}{l:List α}(h:∀x∈l,f x=0):firstI f l=0:=firstI_none fun j hj _=>h _ (List.getElem_mem hj)
def tE(g:List Ty)(t:Tm):Int:=if(typed g t).2≠0 then(typed g t).2 else if(typed g t).1.kind≠1 then 7 else 0
mutual
def Fm.tyE(g:List Ty):Fm→Int
 | .mk k h ts as=>if firstI (tE g) ts≠0 then firstI (tE g) ts else Fm.tyEs (if quantK k=true then g++[h] else g) as
def Fm.tyEs(g:List Ty):List Fm→Int
 |[]=>0
 |f::l=>if f.tyE g≠0 then f.tyE g else Fm.tyEs g l
end
theorem Fm.tyEs_eq(g:List Ty):∀l:List Fm,Fm.tyEs g l=firstI (Fm.tyE g) l
 |[]=>rfl
 |f::l=>by rw[Fm.tyEs,Fm.tyEs_eq g l];rfl
theorem Fm.tyE_eq(g:List Ty)(f:Fm):f.tyE g=if firstI (tE g) f.terms≠0 then firstI (tE g) f.terms else firstI (Fm.tyE (ctxF g f)) f.args:=by
 cases f;simp only[Fm.tyE,Fm.tyEs_eq,ctxF];rfl
def typedF(g:List Ty)(f:Fm):Int:=if f.err≠0 then f.err else f.tyE g
def typedFC(g:List Ty)(f:Fm):Int:=if ctxErr g≠0 then ctxErr g else typedF g f
theorem okT_tyE(f:Fm):∀g:List Ty,f.okT g→f.shape=true→f.size≤4096→f.tyE g=0:=by
 induction f using Fm.ind with
 |h f ih=>
  intro g hok hs hz
  have e:=f.size_eq
  rw[Fm.okT_iff] at hok
  rw[Fm.tyE_eq]
  have h1:firstI (tE g) f.terms=0:=firstI_all fun t ht=>by
   have h2:=lsum_mem Tm.size ht
   have h3:t.err=0:=(Tm.err_iff t).2 ⟨fshape_terms hs ht,by omega⟩
   have h4:typed g t=(natT,0):=by simp only[typed];grind
   simp only[tE,h4];rfl
  rw[if_neg (by omega)]
  exact firstI_all fun x hx=>ih x hx _ (hok.2 x hx) (fshape_args hs hx) (by have:=lsum_mem Fm.size hx;omega)
theorem okT_typedFC{f:Fm}{g:List Ty}(h:f.okT g)(he:f.err=0)(hg:ctxErr g=0):typedFC g f=0:=by
 have h1:=(Fm.err_iff f).1 he
 simp only[typedFC,typedF]
 rw[if_neg (by omega),if_neg (by omega)]
 exact okT_tyE f g h h1.1 h1.2
def rootT(t:Tm):Bool:=
 if t.kind=3 then(t.arg 0).kind==2
 else if t.kind=6 then(t.arg 2).kind==4||(t.arg 2).kind==5
 else if t.kind=9 then(t.arg 2).kind==7||(t.arg 2).kind==8
 else if t.kind=11∨t.kind=12 then(t.arg 0).kind==10 else false
def redT(t:Tm):Tm:=
 if t.kind=3 then((t.arg 0).arg 0).re (putG 0 (t.arg 1)) 0
 else if t.kind=6 then
  if(t.arg 2).kind=4 then t.arg 0 else apT (apT (t.arg 1) ((t.arg 2).arg 0)) (.mk 6 0 t.ty [t.arg 0,t.arg 1,(t.arg 2).arg 0])
 else if t.kind=9 then
  if(t.arg 2).kind=7 then t.arg 0 else apT (apT (apT (t.arg 1) ((t.arg 2).arg 0)) ((t.arg 2).arg 1)) (.mk 9 0 t.ty [t.arg 0,t.arg 1,(t.arg 2).arg 1])
 else if t.kind=11 then(t.arg 0).arg 0 else(t.arg 0).arg 1
def growT(t:Tm):Int:=(redT t).size-t.size
inductive RV:Tm→Tm→Prop
 |beta (i th j s b a):RV (.mk 3 i th [.mk 2 j s [b],a]) (b.re (putG 0 a) 0)
 |rz (i th x f j s):RV (.mk 6 i th [x,f,.mk 4 j s []]) x
 |rs (i th x f j s n):RV (.mk 6 i th [x,f,.mk 5 j s [n]]) (apT (apT f n) (.mk 6 0 th [x,f,n]))
 |fz (i th x f j s):RV (.mk 9 i th [x,f,.mk 7 j s []]) x
 |fs (i th x f j s h l):RV (.mk 9 i th [x,f,.mk 8 j s [h,l]]) (apT (apT (apT f h) l) (.mk 9 0 th [x,f,l]))
 |p1 (i th j s x y):RV (.mk 11 i th [.mk 10 j s [x,y]]) x
 |p2 (i th j s x y):RV (.mk 12 i th [.mk 10 j s [x,y]]) y
theorem mkArgs0{t:Tm}(hs:t.shape=true){k:Int}(hk:t.kind=k)(ha:arK k=some 0):∃i th,t= .mk k i th []:=by
 obtain⟨k',i,th,xs⟩:=t
 rw[Tm.shape_eq,Bool.and_eq_true] at hs
 have h:=hs.1
 simp only[Tm.head,Bool.and_eq_true,Tm.kind_mk,Tm.args_mk] at h hk
 grind
theorem root_rv{t:Tm}(hs:t.shape=true)(h:rootT t=true):RV t (redT t):=by
 unfold rootT at h
 by_cases h3:t.kind=3
 ·rw [if_pos h3] at h
  obtain⟨i,th,f,a,rfl,hf,ha⟩:=mkArgs2 hs h3 rfl
  simp only[Tm.arg,Tm.args_mk,List.getD_cons_zero,beq_iff_eq] at h
  obtain⟨j,s,b,rfl,hb⟩:=mkArgs1 hf h rfl
  exact .beta i th j s b a
 rw[if_neg h3] at h
 by_cases h6:t.kind=6
 ·rw [if_pos h6] at h
  obtain⟨i,th,x,f,z,rfl,hx,hf,hz⟩:=mkArgs3 hs h6 rfl
  simp only[Tm.arg,Tm.args_mk,List.getD_cons_zero,List.getD_cons_succ,Bool.or_eq_true,beq_iff_eq] at h
  rcases h with h|h
  ·obtain ⟨j,s,rfl⟩:=mkArgs0 hz h rfl
   exact .rz i th x f j s
  ·obtain ⟨j,s,n,rfl,hn⟩:=mkArgs1 hz h rfl
   exact .rs i th x f j s n
 rw[if_neg h6] at h
 by_cases h9:t.kind=9
 ·rw [if_pos h9] at h
  obtain⟨i,th,x,f,z,rfl,hx,hf,hz⟩:=mkArgs3 hs h9 rfl
  simp only[Tm.arg,Tm.args_mk,List.getD_cons_zero,List.getD_cons_succ,Bool.or_eq_true,beq_iff_eq] at h
  rcases h with h|h
  ·obtain ⟨j,s,rfl⟩:=mkArgs0 hz h rfl
   exact .fz i th x f j s
  ·obtain ⟨j,s,n,l,rfl,hn,hl⟩:=mkArgs2 hz h rfl
   exact .fs i th x f j s n l
 rw[if_neg h9] at h
 by_cases h11:t.kind=11
 ·rw [if_pos (.inl h11)] at h
  obtain⟨i,th,p,rfl,hp⟩:=mkArgs1 hs h11 rfl
  simp only[Tm.arg,Tm.args_mk,List.getD_cons_zero,beq_iff_eq] at h
  obtain⟨j,s,x,y,rfl,hx,hy⟩:=mkArgs2 hp h rfl
  exact .p1 i th j s x y
 by_cases h12:t.kind=12
 ·rw [if_pos (.inr h12)] at h
  obtain⟨i,th,p,rfl,hp⟩:=mkArgs1 hs h12 rfl
  simp only[Tm.arg,Tm.args_mk,List.getD_cons_zero,beq_iff_eq] at h
  obtain⟨j,s,x,y,rfl,hx,hy⟩:=mkArgs2 hp h rfl
  exact .p2 i th j s x y
 grind
theorem apT_shape{f x:Tm}(hf:f.shape=true)(hx:x.shape=true):(apT f x).shape=true:=by
 simp[apT,Tm.shape,Tm.shapes,Tm.head,arK,typedK,Ty.isNo,hf,hx]
theorem red_shape{t:Tm}(hs:t.shape=true)(h:rootT t=true):(redT t).shape=true:=by
 have hv:=root_rv hs h
 have hargs:=shape_args hs
 generalize redT t=u at hv
 cases hv with
 |beta i th j s b a=>
  have h1:=shape_args (hargs (.mk 2 j s [b]) (by simp)) b (by simp)
  exact put_shape 0 (hargs a (by simp)) h1 (Int.le_refl _) (Int.le_refl _) fun p hp=>vars_snd b 0 p hp
 |rz=>simp_all
 |fz=>simp_all
 |rs i th x f j s n=>
  have h1:=shape_args (hargs (.mk 5 j s [n]) (by simp)) n (by simp)
  have hx:=hargs x (by simp)
  have hf:=hargs f (by simp)
  have hh:th.ok=true:=by rw[Tm.shape_eq,Bool.and_eq_true] at hs;have:=hs.1;simp[Tm.head,typedK] at this;grind
  refine apT_shape (apT_shape hf h1) ?_
  simp[Tm.shape,Tm.shapes,Tm.head,arK,typedK,hf,hx,h1,hh]
 |fs i th x f j s n l=>
  have h1:=shape_args (hargs (.mk 8 j s [n,l]) (by simp)) n (by simp)
  have h2:=shape_args (hargs (.mk 8 j s [n,l]) (by simp)) l (by simp)
  have hx:=hargs x (by simp)
  have hf:=hargs f (by simp)
  have hh:th.ok=true:=by rw[Tm.shape_eq,Bool.and_eq_true] at hs;have:=hs.1;simp[Tm.head,typedK] at this;grind
  refine apT_shape (apT_shape (apT_shape hf h1) h2) ?_
  simp[Tm.shape,Tm.shapes,Tm.head,arK,typedK,hf,hx,h2,hh]
 |p1 i th j s _ y=>exact shape_args (hargs (.mk 10 j s [u,y]) (by simp)) u (by simp)
 |p2 i th j s x _=>exact shape_args (hargs (.mk 10 j s [x,u]) (by simp)) u (by simp)
theorem red_free{C:Int}(hC:0≤C){t u:Tm}(hs:t.shape=true)(h:RV t u)(hf:∀p∈t.vars 0,p.1-p.2≤C):∀p∈u.vars 0,p.1-p.2≤C:=by
 have hargs:=shape_args hs
 cases h with
 |beta i th j s b a=>
  have hb:=shape_args (hargs (.mk 2 j s [b]) (by simp)) b (by simp)
  have ha:=hargs a (by simp)
  intro p hp
  rw[vars_re _ _ _ hb,List.mem_flatMap] at hp
  obtain⟨q,hq,hp⟩:=hp
  have hq2:=vars_snd b 0 q hq
  have hfb:q.1-(q.2+1)≤C:=by
   refine hf (q.1,q.2+1) ?_
   have e:b.vars 1=(b.vars 0).map fun p=>(p.1,p.2+1):=by have:=vars_shift b 0 1;grind
   have hm:(q.1,q.2+1)∈b.vars 1:=by grind
   simp[Tm.vars,Tm.varss,up]
   grind
  rw[putG_eq] at hp
  by_cases h0:q.1-q.2=0
  ·rw [if_pos h0] at hp
   have e:(a.re (liftG 0 (0+q.2)) 0).vars q.2=((a.re (liftG 0 q.2) 0).vars 0).map fun p=>(p.1,p.2+q.2):=by have:=vars_shift (a.re (liftG 0 (0+q.2)) 0) 0 q.2;grind
   rw[e,lift_vars _ _ _ _ ha,List.map_map,List.mem_map] at hp
   obtain⟨r,hr,rfl⟩:=hp
   have hfa:=hf r (by
    simp only[Tm.vars,Tm.varss,up,List.mem_append]
    grind)
   grind
  ·rw [if_neg h0,vars_vT] at hp
   grind
 |rz i th x f j s=>intro p hp;refine hf p ?_;simp[Tm.vars,Tm.varss,up,hp]
 |fz i th x f j s=>intro p hp;refine hf p ?_;simp[Tm.vars,Tm.varss,up,hp]
 |rs i th x f j s n=>
  intro p hp
  refine hf p ?_
  simp[apT,Tm.vars,Tm.varss,up] at hp ⊢
  grind
 |fs i th x f j s n l=>
  intro p hp
  refine hf p ?_
  simp[apT,Tm.vars,Tm.varss,up] at hp ⊢
  grind
 |p1 i th j s x y=>intro p hp;refine hf p ?_;simp[Tm.vars,Tm.varss,up,hp]
 |p2 i th j s x y=>intro p hp;refine hf p ?_;simp[Tm.vars,Tm.varss,up,hp]
mutual
def nxR(room:Int):Tm→Option (Tm×Bool)
 | .mk k i h xs=>if rootT (.mk k i h xs)=true then some (if growT (.mk k i h xs)>room then(noTm,false) else(redT (.mk k i h xs),true)) else(nxRs room xs).map fun p=>(.mk k i h p.1,p.2)
def nxRs(room:Int):List Tm→Option (List Tm×Bool)
 |[]=>none
 |x::l=>match nxR room x with
  |some p=>some (p.1::l,p.2)
  |none=>(nxRs room l).map fun q=>(x::q.1,q.2)
end
theorem nxR_eq(room:Int)(t:Tm):nxR room t=if rootT t=true then some (if growT t>room then(noTm,false) else(redT t,true)) else(nxRs room t.args).map fun p=>(.mk t.kind t.index t.ty p.1,p.2):=by
 cases t;rfl
theorem nxRs_at(room:Int):∀(xs:List Tm) (i:Nat) (hi:i<xs.length) (u:Tm×Bool),nxR room xs[i]=some u→(∀(j:Nat) (hj:j<xs.length),j<i→nxR room xs[j]=none)→nxRs room xs=some (xs.set i u.1,u.2)
 |[],i,hi,u,h,hn=>by grind
 |x::l,0,hi,u,h,hn=>by
  simp only[List.getElem_cons_zero] at h
  simp only[nxRs,h];rfl
 |x::l,i+1,hi,u,h,hn=>by
  have h0:=hn 0 (by simp) (by omega)
  simp only[List.getElem_cons_zero] at h0
  have:=nxRs_at room l i (by grind) u (by grind) fun j hj hji=>by grind
  simp only[nxRs,h0,this,Option.map_some];rfl
theorem nxRs_none(room:Int):∀(xs:List Tm),(∀(j:Nat) (hj:j<xs.length),j<xs.length→nxR room xs[j]=none)→nxRs room xs=none
 |[],_=>rfl
 |x::l,h=>by
  have h0:=h 0 (by simp) (by simp)
  simp only[List.getElem_cons_zero] at h0
  have:=nxRs_none room l fun j hj _=>by have:=h (j+1) (by grind) (by grind);grind
  simp only[nxRs,h0,this];rfl
theorem nxRs_some(room:Int):∀(xs:List Tm) (q:List Tm×Bool),nxRs room xs=some q→∃(i:Nat) (hi:i<xs.length) (u:Tm),nxR room xs[i]=some (u,q.2)∧q.1=xs.set i u
 |[],q,h=>by simp[nxRs] at h
 |x::l,q,h=>by
  simp only[nxRs] at h
  cases hx:nxR room x with
  |some u=>rw[hx] at h;cases h;exact⟨0,by simp,u.1,by grind,rfl⟩
  |none=>
   rw[hx] at h
   simp only[Option.map_eq_some_iff] at h
   obtain⟨r,h1,rfl⟩:=h
   obtain⟨i,hi,u,h2,h3⟩:=nxRs_some room l r h1
   exact⟨i+1,by grind,u,by grind,by grind⟩
theorem nx_facts(room:Int)(t:Tm):∀u,t.shape=true→nxR room t=some (u,true)→u.shape=true∧(u.size:Int)≤t.size+room∧∀C:Int,0≤C→∀b:Int,0≤b→(∀p∈t.vars b,p.1-p.2≤C)→∀p∈u.vars b,p.1-p.2≤C:=by
 induction t using Tm.ind with
 |h t ih=>
  intro u hs h
  rw[nxR_eq] at h
  by_cases hr:rootT t=true
  ·rw [if_pos hr] at h
   by_cases hg:growT t>room
   ·grind
   ·rw [if_neg hg] at h
    simp at h
    subst h
    refine⟨red_shape hs hr,by simp only[growT] at hg;omega,fun C hC b hb hf=> ?_⟩
    have e:∀x:Tm,x.vars b=(x.vars 0).map fun p=>(p.1,p.2+b):=fun x=>by have:=vars_shift x 0 b;grind
    rw[e] at hf ⊢
    have:=red_free (C:=C+b) (by omega) hs (root_rv hs hr) fun p hp=>by have:=hf _ (List.mem_map.2 ⟨p,hp,rfl⟩);omega
    grind
  ·rw [if_neg hr] at h
   simp only[Option.map_eq_some_iff] at h
   obtain⟨q,h1,h2⟩:=h
   obtain⟨i,hi,v,h3,h4⟩:=nxRs_some room _ _ h1
   have h5:q.2=true:=by grind
   have h6:u= .mk t.kind t.index t.ty (t.args.set i v):=by grind
   subst h6
   rw[h5] at h3
   have hm:=List.getElem_mem hi
   obtain⟨i1,i2,i3⟩:=ih _ hm v (shape_args hs _ hm) h3
   refine⟨?_,?_,?_⟩
   ·have:(Tm.mk t.kind t.index t.ty t.args).shape=true:=by simp_all
    exact set_shape this i1
   ·have:=sum_set Tm.size v t.args i hi
    rw[Tm.size_eq,Tm.size_eq t]
    simp only[Tm.args_mk]
    omega
   ·intro C hC b hb hf p hp
    rw[Tm.vars_eq] at hp hf
    simp only[Tm.kind_mk,Tm.index_mk,Tm.args_mk,List.mem_append] at hp hf
    rcases hp with hp|hp
    ·grind
    ·obtain ⟨y,hy,hp⟩:=List.mem_flatMap.1 hp
     have hup:0≤up t.kind b:=by simp only[up];omega
     rcases List.mem_or_eq_of_mem_set hy with hy|hyv
     ·grind
     ·rw [hyv] at hp
      exact i3 C hC _ hup (fun p hp=>hf p (.inr (List.mem_flatMap.2 ⟨_,hm,hp⟩))) p hp
mutual
inductive Par:Tm→Tm→Prop
 |node {k i h xs ys} (hp:Pars xs ys):Par (.mk k i h xs) (.mk k i h ys)
 |beta {i th j s b b' a a'} (hb:Par b b') (ha:Par a a'):Par (.mk 3 i th [.mk 2 j s [b],a]) (b'.re (putG 0 a') 0)
 |rz {i th x x' f j s} (hx:Par x x'):Par (.mk 6 i th [x,f,.mk 4 j s []]) x'
 |rs {i th x x' f f' j s n n'} (hx:Par x x') (hf:Par f f') (hn:Par n n'):Par (.mk 6 i th [x,f,.mk 5 j s [n]]) (apT (apT f' n') (.mk 6 0 th [x',f',n']))
 |fz {i th x x' f j s} (hx:Par x x'):Par (.mk 9 i th [x,f,.mk 7 j s []]) x'
 |fs {i th x x' f f' j s n n' l l'} (hx:Par x x') (hf:Par f f') (hn:Par n n') (hl:Par l l'):Par (.mk 9 i th [x,f,.mk 8 j s [n,l]]) (apT (apT (apT f' n') l') (.mk 9 0 th [x',f',l']))
 |p1 {i th j s x x' y} (hx:Par x x'):Par (.mk 11 i th [.mk 10 j s [x,y]]) x'
 |p2 {i th j s x y y'} (hy:Par y y'):Par (.mk 12 i th [.mk 10 j s [x,y]]) y'
inductive Pars:List Tm→List Tm→Prop
 |nil:Pars [] []
 |cons {x y xs ys} (h:Par x y) (hs:Pars xs ys):Pars (x::xs) (y::ys)
end
theorem pars_of:∀(xs:List Tm),(∀x∈xs,Par x x)→Pars xs xs
 |[],_=> .nil
 |x::l,h=> .cons (h x (by simp)) (pars_of l fun y hy=>h y (by grind))
theorem Par.refl(t:Tm):Par t t:=by
 induction t using Tm.ind with
 |h t ih=>obtain⟨k,i,h,xs⟩:=t;exact .node (pars_of xs ih)
theorem pars_set:∀(xs:List Tm) (i:Nat) (hi:i<xs.length) (u:Tm),Par xs[i] u→Pars xs (xs.set i u)
 |x::l,0,_,u,h=> .cons h (pars_of l fun y _=>Par.refl y)
 |x::l,i+1,hi,u,h=> .cons (Par.refl x) (pars_set l i (by grind) u (by grind))
theorem rv_par{t u:Tm}(h:RV t u):Par t u:=by
 cases h with
 |beta=>exact .beta (.refl _) (.refl _)
 |rz=>exact .rz (.refl _)
 |rs=>exact .rs (.refl _) (.refl _) (.refl _)
 |fz=>exact .fz (.refl _)
 |fs=>exact .fs (.refl _) (.refl _) (.refl _) (.refl _)
 |p1=>exact .p1 (.refl _)
 |p2=>exact .p2 (.refl _)
theorem nx_par(room:Int)(t:Tm):∀u,t.shape=true→nxR room t=some (u,true)→Par t u:=by
 induction t using Tm.ind with
 |h t ih=>
  intro u hs h
  rw[nxR_eq] at h
  by_cases hr:rootT t=true
  ·rw [if_pos hr] at h
   by_cases hg:growT t>room
   ·grind
   ·rw [if_neg hg] at h
    simp at h
    subst h
    exact rv_par (root_rv hs hr)
  ·rw [if_neg hr] at h
   simp only[Option.map_eq_some_iff] at h
   obtain⟨q,h1,h2⟩:=h
   obtain⟨i,hi,v,h3,h4⟩:=nxRs_some room _ _ h1
   have h5:q.2=true:=by grind
   have h6:u= .mk t.kind t.index t.ty (t.args.set i v):=by grind
   subst h6
   rw[h5] at h3
   have hm:=List.getElem_mem hi
   have:=ih _ hm v (shape_args hs _ hm) h3
   obtain⟨k,j,th,xs⟩:=t
   exact .node (pars_set xs i hi v this)
inductive Pst:Tm→Tm→Prop
 |refl (t:Tm):Pst t t
 |step {t s u:Tm} (h:Par t s) (hs:Pst s u):Pst t u
theorem Pst.trans{t s u:Tm}(h:Pst t s):Pst s u→Pst t u:=by
 induction h with
 |refl=>simp
 |step h1 _ ih=>exact fun h=> .step h1 (ih h)
def nf(t:Tm):Prop:=∀u,Par t u→u=t
mutual
theorem nx_nf{room:Int}:∀{t u:Tm},Par t u→nxR room t=none→u=t
 |_,_,.node (k:=k) (i:=i) (h:=h) (xs:=xs) (ys:=ys) hp,hn=>by
  rw[nxR_eq] at hn
  by_cases hr:rootT (.mk k i h xs)=true
  ·grind
  ·rw [if_neg hr] at hn
   simp only[Option.map_eq_none_iff,Tm.args_mk] at hn
   rw[nxs_nf hp hn]
 |_,_,.beta ..,hn=>by rw[nxR_eq] at hn;simp[rootT,Tm.arg] at hn
 |_,_,.rz ..,hn=>by rw[nxR_eq] at hn;simp[rootT,Tm.arg] at hn
 |_,_,.rs ..,hn=>by rw[nxR_eq] at hn;simp[rootT,Tm.arg] at hn
 |_,_,.fz ..,hn=>by rw[nxR_eq] at hn;simp[rootT,Tm.arg] at hn
 |_,_,.fs ..,hn=>by rw[nxR_eq] at hn;simp[rootT,Tm.arg] at hn
 |_,_,.p1 ..,hn=>by rw[nxR_eq] at hn;simp[rootT,Tm.arg] at hn
 |_,_,.p2 ..,hn=>by rw[nxR_eq] at hn;simp[rootT,Tm.arg] at hn
theorem nxs_nf{room:Int}:∀{xs ys:List Tm},Pars xs ys→nxRs room xs=none→ys=xs
 |_,_,.nil,_=>rfl
 |_,_,.cons (x:=x) (xs:=xs) h hs,hn=>by
  simp only[nxRs] at hn
  cases hx:nxR room x with
  |some p=>grind
  |none=>
   rw[hx] at hn
   simp only[Option.map_eq_none_iff] at hn
   rw[nx_nf h hx,nxs_nf hs hn]
end
def nrm:Nat→Tm→Nat→Tm×Int×Int
 |0,t,n=>match nxR (4096-t.size) t with
  |none=>(t,n,0)
  |some _=>(noTm,0,5)
 |k+1,t,n=>match nxR (4096-t.size) t with
  |none=>(t,n,0)
  |some (x,true)=>nrm k x (n+1)
  |some (_,false)=>(noTm,0,4)
def normR(t:Tm)(steps:Int):Tm×Int×Int:=
 if t.err≠0 then(noTm,0,t.err) else if ¬(0≤steps∧steps≤65536)∨t.near=false then(noTm,0,1) else nrm steps.toNat t 0
def mtchR(a b:Tm)(steps:Int):Int:=
 if a.err≠0 then a.err else if b.err≠0 then b.err else if a=b then 0
 else if(normR a steps).2.2≠0 then(normR a steps).2.2 else if(normR b steps).2.2≠0 then(normR b steps).2.2
 else if(normR a steps).1=(normR b steps).1 then 0 else 11
theorem nx_err{t u:Tm}(he:t.err=0)(h:nxR (4096-t.size) t=some (u,true)):u.err=0:=by
 obtain⟨h1,h2⟩:=err_zero he
 obtain⟨h3,h4,_⟩:=nx_facts _ t u h1 h
 exact(Tm.err_iff _).2 ⟨h3,by omega⟩
theorem nrm_ok:∀(k:Nat) (t:Tm) (n:Nat),t.err=0→(nrm k t n).2.2=0→Pst t (nrm k t n).1∧nf (nrm k t n).1∧(nrm k t n).1.err=0
 |0,t,n,he,h=>by
  simp only[nrm] at h ⊢
  cases hx:nxR (4096-t.size) t with
  |none=>rw[hx] at h;exact⟨.refl _,fun u hu=>nx_nf hu hx,he⟩
  |some p=>grind
 |k+1,t,n,he,h=>by
  simp only[nrm] at h ⊢
  cases hx:nxR (4096-t.size) t with
  |none=>rw[hx] at h;exact⟨.refl _,fun u hu=>nx_nf hu hx,he⟩
  |some p=>
   obtain⟨x,f⟩:=p
   rw[hx] at h
   cases f with
   |false=>cases h
   |true=>
    obtain⟨i1,i2,i3⟩:=nrm_ok k x (n+1) (nx_err he hx) h
    exact⟨.step (nx_par _ t x (err_zero he).1 hx) i1,i2,i3⟩
theorem norm_full(t:Tm)(steps:Int)(h:(normR t steps).2.2=0):(normR t steps).1.full<274877906944:=by
 unfold normR at h ⊢
 by_cases he:t.err=0
 ·rw [if_neg (by omega)] at h ⊢
  by_cases hc:¬(0≤steps∧steps≤65536)∨t.near=false
  ·grind
  ·rw [if_neg hc] at h ⊢
   obtain⟨_,_,h3⟩:=nrm_ok _ _ _ he h
   have:=terr_full h3
   omega
 grind
def mtTs:List Tm→List Tm→Int
 |x::l,y::m=>if mtchR x y 1000≠0 then mtchR x y 1000 else mtTs l m
 |_,_=>0
mutual
def mtF:Fm→Fm→Int
 | .mk k ty ts xs,.mk k' ty' ts' xs'=>if k=k'∧ty=ty' then(if mtTs ts ts'≠0 then mtTs ts ts' else mtFs xs xs') else 11
def mtFs:List Fm→List Fm→Int
 |x::l,y::m=>if mtF x y≠0 then mtF x y else mtFs l m
 |_,_=>0
end
theorem mtF_eq(f g:Fm):mtF f g=if f.kind=g.kind∧f.ty=g.ty then(if mtTs f.terms g.terms≠0 then mtTs f.terms g.terms else mtFs f.args g.args) else 11:=by
 cases f;cases g;rfl
theorem mtTs_at:∀(l m:List Tm) (i:Nat) (hi:i<l.length) (hj:i<m.length),(∀j (h1:j<l.length) (h2:j<m.length),j<i→mtchR l[j] m[j] 1000=0)→mtchR l[i] m[i] 1000≠0→mtTs l m=mtchR l[i] m[i] 1000
 |x::l,y::m,0,_,_,_,h=>by simp only[List.getElem_cons_zero] at h ⊢;simp only[mtTs];omega
 |x::l,y::m,i+1,hi,hj,hn,h=>by
  have h0:=hn 0 (by simp) (by simp) (by omega)
  simp only[mtTs]
  rw[if_neg (by grind)]
  exact mtTs_at l m i (by grind) (by grind) (fun j h1 h2 hji=>by grind) (by grind)
theorem mtTs_none:∀(l m:List Tm),(∀j (h1:j<l.length) (h2:j<m.length),mtchR l[j] m[j] 1000=0)→mtTs l m=0
 |[],_,_=>by rfl
 |_::_,[],_=>by rfl
 |x::l,y::m,hn=>by
  have h0:=hn 0 (by simp) (by simp)
  simp only[mtTs]
  rw[if_neg (by grind)]
  exact mtTs_none l m fun j h1 h2=>by have:=hn (j+1) (by grind) (by grind);grind
theorem mtFs_at:∀(l m:List Fm) (i:Nat) (hi:i<l.length) (hj:i<m.length),(∀j (h1:j<l.length) (h2:j<m.length),j<i→mtF l[j] m[j]=0)→mtF l[i] m[i]≠0→mtFs l m=mtF l[i] m[i]
 |x::l,y::m,0,_,_,_,h=>by simp only[List.getElem_cons_zero] at h ⊢;simp only[mtFs];omega
 |x::l,y::m,i+1,hi,hj,hn,h=>by
  have h0:=hn 0 (by simp) (by simp) (by omega)
  simp only[mtFs]
  rw[if_neg (by grind)]
  exact mtFs_at l m i (by grind) (by grind) (fun j h1 h2 hji=>by grind) (by grind)
theorem mtFs_none:∀(l m:List Fm),(∀j (h1:j<l.length) (h2:j<m.length),mtF l[j] m[j]=0)→mtFs l m=0
 |[],_,_=>by rfl
 |_::_,[],_=>by rfl
 |x::l,y::m,hn=>by
  have h0:=hn 0 (by simp) (by simp)
  simp only[mtFs]
  rw[if_neg (by grind)]
  exact mtFs_none l m fun j h1 h2=>by have:=hn (j+1) (by grind) (by grind);grind
def mtchF(f g:Fm):Int:=if f.err≠0 then f.err else if g.err≠0 then g.err else mtF f g
@[simp] theorem Pf.kind_mk(k i:Int)(h:Ty)(ts:List Tm)(fs:List Fm)(as:List Pf):(Pf.mk k i h ts fs as).kind=k:=rfl
@[simp] theorem Pf.index_mk(k i:Int)(h:Ty)(ts:List Tm)(fs:List Fm)(as:List Pf):(Pf.mk k i h ts fs as).index=i:=rfl
@[simp] theorem Pf.ty_mk(k i:Int)(h:Ty)(ts:List Tm)(fs:List Fm)(as:List Pf):(Pf.mk k i h ts fs as).ty=h:=rfl
@[simp] theorem Pf.terms_mk(k i:Int)(h:Ty)(ts:List Tm)(fs:List Fm)(as:List Pf):(Pf.mk k i h ts fs as).terms=ts:=rfl
@[simp] theorem Pf.forms_mk(k i:Int)(h:Ty)(ts:List Tm)(fs:List Fm)(as:List Pf):(Pf.mk k i h ts fs as).forms=fs:=rfl
@[simp] theorem Pf.args_mk(k i:Int)(h:Ty)(ts:List Tm)(fs:List Fm)(as:List Pf):(Pf.mk k i h ts fs as).args=as:=rfl
structure Nd where
 terms:Nat
 forms:Nat
 args:Nat
 index:Bool
 typ:Bool
def noNd:Nd:=⟨0,0,0,false,false⟩
def ndP(k:Int):Option Nd:=
 if k=1∨k=2 then some ⟨0,0,0,true,false⟩
 else if k=3∨k=7 then some ⟨0,0,2,false,false⟩
 else if k=4∨k=5∨k=20 then some ⟨0,0,1,false,false⟩
 else if k=6 then some ⟨0,1,1,false,false⟩
 else if k=8∨k=12 then some ⟨0,0,1,false,true⟩
 else if k=9∨k=13 then some ⟨1,0,1,false,false⟩
 else if k=10∨k=14 then some ⟨1,1,1,false,false⟩
 else if k=11∨k=15 then some ⟨0,0,2,false,false⟩
 else if k=16∨k=17 then some ⟨1,1,2,false,false⟩
 else if k=18 then some ⟨1,0,0,false,false⟩
 else if k=19 then some ⟨0,1,2,false,false⟩ else none
def Nd.view(n:Nd):List V:=[.i n.terms,.i n.forms,.i n.args,.bool n.index,.bool n.typ]
def Pf.head(p:Pf):Bool:=match ndP p.kind with
 |none=>false
 |some n=>p.terms.length==n.terms&&p.forms.length==n.forms&&p.args.length==n.args&&decide (0≤p.index)&&(n.index||p.index==0)&&(if n.typ=true then p.ty.ok else p.ty.isNo)
mutual
def Pf.shape:Pf→Bool
 | .mk k i h ts fs as=>Pf.head (.mk k i h ts fs as)&&ts.all Tm.shape&&fs.all Fm.shape&&Pf.shapes as
def Pf.shapes:List Pf→Bool
 |[]=>true
 |f::l=>f.shape&&Pf.shapes l
end
mutual
def Pf.size:Pf→Nat
 | .mk _ _ _ ts fs as=>1+(ts.map Tm.size).sum+(fs.map Fm.size).sum+Pf.sizes as
def Pf.sizes:List Pf→Nat
 |[]=>0
 |f::l=>f.size+Pf.sizes l
end
mutual
def Pf.full:Pf→Nat
 | .mk _ _ h ts fs as=>1+h.size+(ts.map Tm.full).sum+(fs.map Fm.full).sum+Pf.fulls as
def Pf.fulls:List Pf→Nat
 |[]=>0
 |f::l=>f.full+Pf.fulls l
end
mutual
def Pf.small:Pf→Bool
 | .mk _ _ _ ts fs as=>ts.all (fun t=>decide (t.size≤4096))&&fs.all (fun f=>decide (f.size≤4096))&&Pf.smalls as
def Pf.smalls:List Pf→Bool
 |[]=>true
 |f::l=>f.small&&Pf.smalls l
end
theorem Pf.shapes_eq:∀l:List Pf,Pf.shapes l=l.all Pf.shape
 |[]=>rfl
 |f::l=>by rw[Pf.shapes,Pf.shapes_eq l];rfl
theorem Pf.sizes_eq:∀l:List Pf,Pf.sizes l=(l.map Pf.size).sum
 |[]=>rfl
 |f::l=>by rw[Pf.sizes,Pf.sizes_eq l];rfl
theorem Pf.fulls_eq:∀l:List Pf,Pf.fulls l=(l.map Pf.full).sum
 |[]=>rfl
 |f::l=>by rw[Pf.fulls,Pf.fulls_eq l];rfl
theorem Pf.smalls_eq:∀l:List Pf,Pf.smalls l=l.all Pf.small
 |[]=>rfl
 |f::l=>by rw[Pf.smalls,Pf.smalls_eq l];rfl
theorem Pf.shape_eq(p:Pf):p.shape=(p.head&&p.terms.all Tm.shape&&p.forms.all Fm.shape&&p.args.all Pf.shape):=by cases p;simp only[Pf.shape,Pf.shapes_eq];rfl
theorem Pf.size_eq(p:Pf):p.size=1+(p.terms.map Tm.size).sum+(p.forms.map Fm.size).sum+(p.args.map Pf.size).sum:=by cases p;simp only[Pf.size,Pf.sizes_eq];rfl
theorem Pf.full_eq(p:Pf):p.full=1+p.ty.size+(p.terms.map Tm.full).sum+(p.forms.map Fm.full).sum+(p.args.map Pf.full).sum:=by cases p;simp only[Pf.full,Pf.fulls_eq];rfl
theorem Pf.small_eq(p:Pf):p.small=(p.terms.all (fun t=>decide (t.size≤4096))&&p.forms.all (fun f=>decide (f.size≤4096))&&p.args.all Pf.small):=by cases p;simp only[Pf.small,Pf.smalls_eq];rfl
theorem Pf.full_pos(p:Pf):1≤p.full:=by rw[Pf.full_eq];omega
theorem Pf.size_pos(p:Pf):1≤p.size:=by rw[Pf.size_eq];omega
theorem Pf.ind{P:Pf→Prop}(h:∀f,(∀x∈f.args,P x)→P f)(f:Pf):P f:=by
 have:∀n,∀f:Pf,f.full≤n→P f:=by
  intro n
  induction n with
  |zero=>intro f h;have:=f.full_pos;omega
  |succ n ih=>
   intro f hf
   refine h f fun x hx=>ih x ?_
   have:=lsum_mem Pf.full hx
   have:=f.full_eq
   omega
 exact this _ f (Nat.le_refl _)
theorem Pf.size_le_full(p:Pf):p.size≤p.full:=by
 induction p using Pf.ind with
 |h p ih=>
  rw[p.size_eq,p.full_eq]
  have h1:=lsum_le (f:=Pf.size) (g:=Pf.full) p.args ih
  have h2:=lsum_le (f:=Tm.size) (g:=Tm.full) p.terms fun x _=>x.size_le_full
  have h3:=lsum_le (f:=Fm.size) (g:=Fm.full) p.forms fun x _=>x.size_le_full
  omega
def Pf.err(p:Pf):Int:=if p.shape=false then 2 else if p.small=false∨p.size>16384 then 4 else 0
theorem Pf.err_iff(p:Pf):p.err=0↔p.shape=true∧p.small=true∧p.size≤16384:=by
 unfold Pf.err
 grind
def reflP(t:Tm):Pf:= .mk 18 0 (.mk 0 []) [t] [] []
theorem same_lens{f g:Fm}(hf:f.shape=true)(hg:g.shape=true)(hk:f.kind=g.kind):f.terms.length=g.terms.length∧f.args.length=g.args.length:=by
 rw[Fm.shape_eq,Bool.and_eq_true,Bool.and_eq_true] at hf hg
 have h1:=hf.1.1
 have h2:=hg.1.1
 unfold Fm.head at h1 h2
 grind
def Ty.small5(t:Ty):Prop:=t.shape=true∧t.size≤5
def smalls5(g:List Ty):Prop:=∀t∈g,t.small5
def Dk.tn:Nat→MkF
 |0,d,_,_=>(noTm,d)
 |n+1,d,g,t=>d.gen (Dk.tn n) (decide (3≤n)) g t
theorem Dk.tn_ok:∀(n:Nat) (d:Dk) (g:List Ty) (t:Ty),d.ok→(Dk.tn n d g t).2.ok
 |0,d,_,_,h=>h
 |n+1,d,g,t,h=>Dk.gen_ok (fun d g t hd=>Dk.tn_ok n d g t hd) h
theorem small5_cases{t:Ty}(h:t.small5):t=natT∨t=listT∨t=unitT∨∃a b,a.small5∧b.small5∧a.size+b.size+1=t.size∧(t=twoT a b∨t=funT a b):=by
 rcases shape_cases h.1 with h1|h1|h1|⟨a,b,ha,hb,h1⟩
 ·exact .inl h1
 ·exact .inr (.inl h1)
 ·exact .inr (.inr (.inl h1))
 ·have e:a.size+b.size+1=t.size:=by rcases h1 with rfl|rfl<;>simp only[two_size,fun_size]<;>omega
  have:=h.2
  exact .inr (.inr (.inr ⟨a,b,⟨ha,by omega⟩,⟨hb,by omega⟩,e,h1⟩))
theorem tyPos(t:Ty):1≤t.size:=by cases t;simp[Ty.size];try omega
theorem small5_one{t:Ty}(h:t.shape=true)(h1:t.size=1):t.small5:=⟨h,by omega⟩
theorem small5_of{t:Ty}(h:t.small):t.small5:=⟨h.1,by have:=h.2;omega⟩
theorem small5_nat:natT.small5:=small5_of small_nat
theorem small5_list:listT.small5:=small5_of small_list
theorem smalls5_app{g l:List Ty}(h:smalls5 g)(h1:smalls5 l):smalls5 (g++l):=fun t ht=>by
 rcases List.mem_append.1 ht with ht|ht
 ·exact h t ht
 ·exact h1 t ht
theorem smalls5_cons{t:Ty}{l:List Ty}(h:t.small5)(h1:smalls5 l):smalls5 (t::l):=fun x hx=>by
 rcases List.mem_cons.1 hx with rfl|hx
 ·exact h
 ·exact h1 x hx
theorem smalls5_nil:smalls5 []:=fun t ht=>by cases ht
theorem smalls5_at{g:List Ty}(h:smalls5 g){i:Nat}(hi:i<g.length):(at0 g (g.length-1-i)).small5:=h _ (at0_mem (by omega))
theorem isFn_fun5{g:List Ty}{t:Ty}{i:Nat}(hg:smalls5 g)(hi:i<g.length)(h:isFn g t i=true):∃s,s.small5∧s.size≤3∧at0 g (g.length-1-i)=funT s t:=by
 simp only[isFn,Bool.and_eq_true,beq_iff_eq,decide_eq_true_eq] at h
 have hs:=smalls5_at hg hi
 rcases small5_cases hs with h3|h3|h3|⟨a,b,ha,hb,h1,h3|h3⟩
 ·rw [h3] at h;exact absurd h.1 (by decide)
 ·rw [h3] at h;exact absurd h.1 (by decide)
 ·rw [h3] at h;exact absurd h.1 (by decide)
 ·rw [h3] at h;exact absurd h.1 (by simp[twoT])
 ·refine ⟨a,ha,?_,?_⟩
  ·have:=hs.2;have:=tyPos b;omega
  ·have:=h.2
   rw[h3] at this ⊢
   simp only[funT,Ty.args_mk,at0_cons1] at this
   rw[this]
structure G5 (n:Nat) (g:List Ty) (t:Ty) (x:Tm):Prop where
 shape:x.shape=true
 inf:x.inf g=(t,0)
 size:x.size+2≤8*3^n
 full:x.full+30≤30*3^n
theorem p3(n:Nat):1≤3^n∧3^(n+1)=3*3^n:=⟨Nat.one_le_pow _ _ (by omega),by rw[Nat.pow_succ];omega⟩
theorem ok5{t:Ty}(h:t.small5):t.ok=true:=ok_of h.1 (by have:=h.2;omega)
theorem err5{a b:Ty}(ha:a.small5)(hb:b.small5):(funT a b).err=0:=fun_err ha.1 hb.1 (by have:=ha.2;have:=hb.2;omega)
section
variable {n:Nat} {g:List Ty} {s t:Ty} {a b c:Tm}
theorem G5.var(i:Nat)(hi:i<g.length)(h:at0 g (g.length-1-i)=t):G5 (n+1) g t (vT i):=
 ⟨shape_vT _ (by omega),by rw[inf_var g i hi,←h];rfl,by have:=p3 n;simp[vT,Tm.size,Tm.sizes];omega,by have:=p3 n;simp[vT,Tm.full,Tm.fulls,Ty.size,Ty.sizes];omega⟩
theorem G5.lam(hs:s.small5)(ht:t.small5)(h1:s.size+t.size≤10)(ha:G5 n (g++[s]) t a):G5 (n+1) g (funT s t) (lmT s a):=
 ⟨shape_lm (ok5 hs) ha.shape,inf_lam ha.inf (err5 hs ht),by have:=p3 n;have:=ha.size;simp[lmT,Tm.size,Tm.sizes];omega,by have:=p3 n;have:=ha.full;have:=hs.2;simp[lmT,Tm.full,Tm.fulls];omega⟩
theorem G5.app(hs:s.small5)(ht:t.small5)(ha:G5 n (g++[s]) t a)(hb:G5 n g s b):G5 (n+1) g t (apT (lmT s a) b):=
 ⟨shape_two (k:=3) rfl rfl (shape_lm (ok5 hs) ha.shape) hb.shape,inf_app (inf_lam ha.inf (err5 hs ht)) hb.inf,by have:=p3 n;have:=ha.size;have:=hb.size;simp[apT,lmT,Tm.size,Tm.sizes];omega,by have:=p3 n;have:=ha.full;have:=hb.full;have:=hs.2;simp[apT,lmT,Tm.full,Tm.fulls,Ty.size,Ty.sizes];omega⟩
theorem G5.fst(hs:s.small5)(ht:t.small5)(ha:G5 n g t a)(hb:G5 n g s b):G5 (n+1) g t (nT 11 [nT 10 [a,b]]):=
 ⟨shape_one' rfl rfl (shape_two rfl rfl ha.shape hb.shape),inf_fst (inf_pair ha.inf hb.inf (two_err ht.1 hs.1 (by have:=hs.2;have:=ht.2;omega))),by have:=p3 n;have:=ha.size;have:=hb.size;simp[nT,Tm.size,Tm.sizes];omega,by have:=p3 n;have:=ha.full;have:=hb.full;simp[nT,Tm.full,Tm.fulls,Ty.size,Ty.sizes];omega⟩
theorem G5.snd(hs:s.small5)(ht:t.small5)(ha:G5 n g s a)(hb:G5 n g t b):G5 (n+1) g t (nT 12 [nT 10 [a,b]]):=
 ⟨shape_one' rfl rfl (shape_two rfl rfl ha.shape hb.shape),inf_snd (inf_pair ha.inf hb.inf (two_err hs.1 ht.1 (by have:=hs.2;have:=ht.2;omega))),by have:=p3 n;have:=ha.size;have:=hb.size;simp[nT,Tm.size,Tm.sizes];omega,by have:=p3 n;have:=ha.full;have:=hb.full;simp[nT,Tm.full,Tm.fulls,Ty.size,Ty.sizes];omega⟩
theorem G5.recu{m:Nat}(hm:m<3)(ht:t.small5)(ha:G5 n (g++[natT,t]) t a)(hb:G5 n g t b):G5 (n+1) g t (hT 6 t [b,lmT natT (lmT t a),numT m]):=by
 have h2:=ht.2
 refine⟨shape_h3 rfl rfl (ok5 ht) hb.shape (shape_lm rfl (shape_lm (ok5 ht) ha.shape)) (shape_num m),?_,?_,?_⟩
 ·exact inf_rec hb.inf (inf_lam (inf_lam (by rw[List.append_assoc];exact ha.inf) (fun_err ht.1 ht.1 (by omega))) (nat_fun_err (fun_shape ht.1 ht.1) (by rw[fun_size];omega))) (inf_num g m)
 ·have:=p3 n;have:=ha.size;have:=hb.size;simp[hT,lmT,Tm.size,Tm.sizes,numT_size];omega
 ·have:=p3 n;have:=ha.full;have:=hb.full;have e3:natT.size=1:=rfl;simp[hT,lmT,Tm.full,Tm.fulls,e3,numT_full];omega
theorem G5.fold(ht:t.small5)(ha:G5 n (g++[natT,listT,t]) t a)(hb:G5 n g t b)(hc:G5 n g listT c):G5 (n+1) g t (hT 9 t [b,lmT natT (lmT listT (lmT t a)),c]):=by
 have h2:=ht.2
 have e1:listT.size=1:=rfl
 have e3:natT.size=1:=rfl
 refine⟨shape_h3 rfl rfl (ok5 ht) hb.shape (shape_lm rfl (shape_lm rfl (shape_lm (ok5 ht) ha.shape))) hc.shape,?_,?_,?_⟩
 ·exact inf_fold hb.inf (inf_lam (inf_lam (inf_lam (by rw[List.append_assoc,List.append_assoc];exact ha.inf) (fun_err ht.1 ht.1 (by omega))) (fun_err rfl (fun_shape ht.1 ht.1) (by rw[fun_size];omega))) (nat_fun_err (fun_shape rfl (fun_shape ht.1 ht.1)) (by rw[fun_size,fun_size];omega))) hc.inf
 ·have:=p3 n;have:=ha.size;have:=hb.size;have:=hc.size;simp[hT,lmT,Tm.size,Tm.sizes];omega
 ·have:=p3 n;have:=ha.full;have:=hb.full;have:=hc.full;simp[hT,lmT,Tm.full,Tm.fulls,e3,e1];omega
theorem G5.ctx(i:Nat)(hi:i<g.length)(h:at0 g (g.length-1-i)=funT s t)(ha:G5 n g s a):G5 (n+1) g t (apT (vT i) a):=
 ⟨shape_two (k:=3) rfl rfl (shape_vT _ (by omega)) ha.shape,inf_app (s:=s) (by rw[inf_var g i hi];rw[←h];rfl) ha.inf,by have:=p3 n;have:=ha.size;simp[apT,vT,Tm.size,Tm.sizes];omega,by have:=p3 n;have:=ha.full;simp[apT,vT,Tm.full,Tm.fulls,Ty.size,Ty.sizes];omega⟩
theorem G5.succ(ha:G5 n g natT a):G5 (n+1) g natT (sT a):=
 ⟨shape_one' (k:=5) rfl rfl ha.shape,inf_succ ha.inf,by have:=p3 n;have:=ha.size;simp[sT,Tm.size,Tm.sizes];omega,by have:=p3 n;have:=ha.full;simp[sT,Tm.full,Tm.fulls,Ty.size,Ty.sizes];omega⟩
theorem G5.plus(hn:1≤n)(ha:G5 n g natT a)(hb:G5 n g natT b):G5 (n+1) g natT (apT (apT plusT a) b):=by
 obtain⟨k,rfl⟩:∃k,n=k+1:=⟨n-1,by omega⟩
 have q:=p3 k;have q2:=p3 (k+1);have h1:=ha.size;have h2:=hb.size;have h3:=ha.full;have h4:=hb.full
 refine⟨shape_two (k:=3) rfl rfl (shape_two (k:=3) rfl rfl rfl ha.shape) hb.shape,inf_app (inf_app (inf_plus g) ha.inf) hb.inf,?_,?_⟩
 ·have:plusT.size=9:=rfl
  simp[apT,Tm.size,Tm.sizes];omega
 ·have e5:plusT.full≤18:=by decide
  simp[apT,Tm.full,Tm.fulls,Ty.size,Ty.sizes];omega
theorem G5.sub(hn:1≤n)(ha:G5 n g natT a)(hb:G5 n g natT b):G5 (n+1) g natT (apT (apT subT a) b):=by
 obtain⟨k,rfl⟩:∃k,n=k+1:=⟨n-1,by omega⟩
 have q:=p3 k;have q2:=p3 (k+1);have h1:=ha.size;have h2:=hb.size;have h3:=ha.full;have h4:=hb.full
 refine⟨shape_two (k:=3) rfl rfl (shape_two (k:=3) rfl rfl rfl ha.shape) hb.shape,inf_app (inf_app (inf_sub g) ha.inf) hb.inf,?_,?_⟩
 ·have:subT.size=16:=rfl
  simp[apT,Tm.size,Tm.sizes];omega
 ·have e5:subT.full≤36:=by decide
  simp[apT,Tm.full,Tm.fulls,Ty.size,Ty.sizes];omega
theorem G5.num{m:Nat}(hm:m<3):G5 (n+1) g natT (numT m):=⟨shape_num m,inf_num g m,by have:=p3 n;rw[numT_size];omega,by have:=p3 n;rw[numT_full];omega⟩
theorem G5.cons(ha:G5 n g natT a)(hb:G5 n g listT b):G5 (n+1) g listT (nT 8 [a,b]):=
 ⟨shape_two rfl rfl ha.shape hb.shape,inf_cons ha.inf hb.inf,by have:=p3 n;have:=ha.size;have:=hb.size;simp[nT,Tm.size,Tm.sizes];omega,by have:=p3 n;have:=ha.full;have:=hb.full;simp[nT,Tm.full,Tm.fulls,Ty.size,Ty.sizes];omega⟩
theorem G5.nil:G5 (n+1) g listT (nT 7 []):=⟨rfl,by rw[Tm.inf_eq];simp[nT,Tm.infs,rule],by have:=p3 n;simp[nT,Tm.size,Tm.sizes];omega,by have:=p3 n;simp[nT,Tm.full,Tm.fulls,Ty.size,Ty.sizes];omega⟩
theorem G5.unit:G5 (n+1) g unitT (nT 13 []):=⟨rfl,by rw[Tm.inf_eq];simp[nT,Tm.infs,rule],by have:=p3 n;simp[nT,Tm.size,Tm.sizes];omega,by have:=p3 n;simp[nT,Tm.full,Tm.fulls,Ty.size,Ty.sizes];omega⟩
theorem G5.pair(hs:s.small5)(ht:t.small5)(ha:G5 n g s a)(hb:G5 n g t b):G5 (n+1) g (twoT s t) (nT 10 [a,b]):=
 ⟨shape_two rfl rfl ha.shape hb.shape,inf_pair ha.inf hb.inf (two_err hs.1 ht.1 (by have:=hs.2;have:=ht.2;omega)),by have:=p3 n;have:=ha.size;have:=hb.size;simp[nT,Tm.size,Tm.sizes];omega,by have:=p3 n;have:=ha.full;have:=hb.full;simp[nT,Tm.full,Tm.fulls,Ty.size,Ty.sizes];omega⟩
end
abbrev RecG(rec:MkF)(n:Nat):Prop:=∀d g t,smalls5 g→t.small5→t.size+1≤2*n→G5 n g t (rec d g t).1
theorem Dk.fin_g5{rec:MkF}{n:Nat}{pos:Bool}{d:Dk}{g:List Ty}{t:Ty}(H:RecG rec n)(hp:pos=true→3≤n)(hg:smalls5 g)(ht:t.small5)(h0:t.size≤2*n+1):G5 (n+1) g t (d.fin rec pos g t).1:=by
 have en:natT.size=1:=rfl
 have el:listT.size=1:=rfl
 rcases small5_cases ht with rfl|rfl|rfl|⟨a,b,ha,hb,h1,rfl|rfl⟩
 ·unfold Dk.fin
  rw[if_pos (show natT.kind=1 from rfl)]
  by_cases hpos:pos=true
  ·have hn:=hp hpos
   have hr:∀d,G5 n g natT (rec d g natT).1:=fun d=>H d g natT hg small5_nat (by omega)
   rw[if_pos hpos]
   split
   ·exact .succ (hr _)
   ·split
    ·exact .plus (by omega) (hr _) (hr _)
    ·split
     ·exact .sub (by omega) (hr _) (hr _)
     ·obtain ⟨m,hm,e⟩:=numOf_lt (d.next 5).2
      simp only[e]
      exact .num hm
  ·rw [if_neg hpos]
   obtain⟨m,hm,e⟩:=numOf_lt d
   simp only[e]
   exact .num hm
 ·unfold Dk.fin
  rw[if_neg (by decide),if_pos (show listT.kind=2 from rfl)]
  by_cases hpos:pos=true
  ·have hn:=hp hpos
   rw[if_pos hpos]
   split
   ·exact .cons (H _ g natT hg small5_nat (by omega)) (H _ g listT hg small5_list (by omega))
   ·exact .nil
  ·rw [if_neg hpos];exact .nil
 ·unfold Dk.fin
  rw[if_neg (by decide),if_neg (by decide),if_neg (by decide),if_neg (by decide)]
  exact .unit
 ·unfold Dk.fin
  rw[if_neg (by simp[twoT]),if_neg (by simp[twoT]),if_pos (show(twoT a b).kind=3 from rfl)]
  have:=tyPos a
  have:=tyPos b
  exact .pair ha hb (H _ g a hg ha (by omega)) (H _ g b hg hb (by omega))
 ·unfold Dk.fin
  rw[if_neg (by simp[funT]),if_neg (by simp[funT]),if_neg (by simp[funT]),if_pos (show(funT a b).kind=4 from rfl)]
  have:=tyPos a
  have:=tyPos b
  exact .lam ha hb (by have:=ha.2;have:=hb.2;omega) (H _ (g++[a]) b (smalls5_app hg (smalls5_cons ha smalls5_nil)) hb (by omega))
theorem Dk.mid_g5{rec:MkF}{n:Nat}{pos:Bool}{d:Dk}{g:List Ty}{t:Ty}(H:RecG rec n)(hp:pos=true→3≤n)(hg:smalls5 g)(ht:t.small5)(h0:t.size≤2*n+1):G5 (n+1) g t (d.mid rec pos g t).1:=by
 have en:natT.size=1:=rfl
 have el:listT.size=1:=rfl
 unfold Dk.mid Dk.m0 Dk.m1 Dk.m2 Dk.m3 Dk.m4 Dk.m5
 by_cases hpos:pos=true
 ·have hn:=hp hpos
  have hs:=Dk.type0 (d.next 8).2
  have hss:=small5_one hs.1 hs.2
  have h5:=ht.2
  rw[if_pos hpos]
  split
  ·exact .app hss ht (H _ _ _ (smalls5_app hg (smalls5_cons hss smalls5_nil)) ht (by omega)) (H _ _ _ hg hss (by omega))
  ·split
   ·exact .fst hss ht (H _ _ _ hg ht (by omega)) (H _ _ _ hg hss (by omega))
   ·split
    ·obtain ⟨m,hm,e⟩:=numOf_lt (rec (rec (d.next 8).2 (g++[natT,t]) t).2 g t).2
     simp only[e]
     exact .recu hm ht (H _ _ _ (smalls5_app hg (smalls5_cons small5_nat (smalls5_cons ht smalls5_nil))) ht (by omega)) (H _ _ _ hg ht (by omega))
    ·split
     ·exact .fold ht (H _ _ _ (smalls5_app hg (smalls5_cons small5_nat (smalls5_cons small5_list (smalls5_cons ht smalls5_nil)))) ht (by omega)) (H _ _ _ hg ht (by omega)) (H _ _ _ hg small5_list (by omega))
     ·split
      ·exact .snd hss ht (H _ _ _ hg hss (by omega)) (H _ _ _ hg ht (by omega))
      ·split
       ·split
        ·rename_i i hi
         obtain⟨h1,h2⟩:=findF_some hi
         obtain⟨s,h3,h4,h5⟩:=isFn_fun5 hg h1 h2
         simp only[h5,funT,Ty.args_mk,at0_cons0]
         exact .ctx i h1 h5 (H _ _ _ hg h3 (by omega))
        ·exact Dk.fin_g5 H hp hg ht h0
       ·exact Dk.fin_g5 H hp hg ht h0
 ·rw [if_neg hpos];exact Dk.fin_g5 H hp hg ht h0
theorem Dk.gen_g5{rec:MkF}{n:Nat}{pos:Bool}{d:Dk}{g:List Ty}{t:Ty}(H:RecG rec n)(hp:pos=true→3≤n)(hg:smalls5 g)(ht:t.small5)(h0:t.size≤2*n+1):G5 (n+1) g t (d.gen rec pos g t).1:=by
 unfold Dk.gen
 split
 ·exact Dk.mid_g5 H hp hg ht h0
 ·rename_i hl
  split
  ·obtain ⟨j,e,h1,h2⟩:=varsT_pick (d.next 3).2 hl
   simp only[e]
   exact .var j h1 h2
  ·exact Dk.mid_g5 H hp hg ht h0
theorem Dk.tn_g5:∀n,RecG (Dk.tn n) n
 |0=>fun d g t _ _ h=>by omega
 |n+1=>fun d g t hg ht h1=>Dk.gen_g5 (Dk.tn_g5 n) (by simp) hg ht (by omega)
end Go.Ab
